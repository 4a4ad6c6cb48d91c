/- The laws of chapter 40: lists of fractions opened. -/
import Derived.Test.YtjolkfkekeolcaaGreatDoorLaw40
import Derived.Test.YtjolkfkekeolcaaGreatDoorLwA
import Derived.Test.YtjolkfkekeolcaaGreatDoorFrL
namespace Go.Proofs.YtjolkfkekeolcaaGreatDoor
open Go Go.RowKit Go.Nat9 Go.Fw Go.ChangeShapes Go.WideShapes Go.ChangeAt
theorem c26 : Tryz.prog.cellsOf 26 = 3 := by kernel_rfl
theorem c24 : Tryz.prog.cellsOf 24 = 1 := by kernel_rfl
theorem c22 : Tryz.prog.cellsOf 22 = 1 := by kernel_rfl
theorem c87 : Tryz.prog.cellsOf 82 = 1 := by kernel_rfl
theorem c4 : Tryz.prog.cellsOf 4 = 1 := by kernel_rfl
section
variable {H : Type} {enc : TypeId × Value → H} {w : World} {base : Nat} {sp : Nat → Bool} {held : Bool}
theorem open_nat {fuel : Nat} {v : Value} {x : DataW H × List MemPlace} (h : DataW.trod enc Tryz.prog w base sp held fuel 24 [v] = some x) :
    ∃ (ad : Option Addr) (n c : Nat) (L : List Nat), v = .slice ad n c ∧ L.length = n ∧ U32 L ∧ CellsAt (fun _ => False) w ad (u32s L) := by
  obtain ⟨xs, n, _, _, _, hlen, hf⟩ := DataW.trod_struct Tryz.underlying24 h
  have h0 : DataW.trod enc Tryz.prog w base sp held n 22 (List.take (Tryz.prog.cellsOf 22) (List.drop 0 [v])) = xs[0]? := by
    have h := hf 0 _ rfl
    exact h
  rw [List.getElem?_eq_getElem (by rw [hlen]; decide), c22] at h0
  exact open_u32s Tryz.underlying22 Tryz.underlying82 c87 h0
theorem open_fi {fuel : Nat} {cs : List Value} {x : DataW H × List MemPlace} (hl : cs.length = 3) (h : DataW.trod enc Tryz.prog w base sp held fuel 26 cs = some x) :
    ∃ y : Fi, cs = rc y ∧ (y.raw ∧ CellsAt (fun _ => False) w y.ad (u32s y.L) ∧ CellsAt (fun _ => False) w y.be (u32s y.M)) := by
  obtain ⟨v0, v1, v2, rfl⟩ : ∃ a b c, cs = [a, b, c] := by
    match cs, hl with
    | [a, b, c], _ => exact ⟨a, b, c, rfl⟩
  obtain ⟨xs, n, _, _, _, hlen, hf⟩ := DataW.trod_struct Tryz.underlying26 h
  have h0 : DataW.trod enc Tryz.prog w base sp held n 4 (List.take (Tryz.prog.cellsOf 4) (List.drop 0 [v0, v1, v2])) = xs[0]? := by
    have h := hf 0 _ rfl
    exact h
  have h1 : DataW.trod enc Tryz.prog w base sp held n 24 (List.take (Tryz.prog.cellsOf 24) (List.drop 1 [v0, v1, v2])) = xs[1]? := by
    have h := hf 1 _ rfl
    exact h
  have h2 : DataW.trod enc Tryz.prog w base sp held n 24 (List.take (Tryz.prog.cellsOf 24) (List.drop 2 [v0, v1, v2])) = xs[2]? := by
    have h := hf 2 _ rfl
    exact h
  rw [List.getElem?_eq_getElem (by rw [hlen]; decide), c4] at h0
  rw [List.getElem?_eq_getElem (by rw [hlen]; decide), c24] at h1 h2
  obtain ⟨s, hs, _⟩ := DataW.trod_bool Tryz.underlying4 h0
  obtain ⟨ad, n1, c, L, rfl, l1, u1, g1⟩ := open_nat h1
  obtain ⟨be, m1, e, M, rfl, l2, u2, g2⟩ := open_nat h2
  simp only [List.drop_zero, List.take_succ_cons, List.take_zero, List.cons.injEq, and_true] at hs
  subst hs
  exact ⟨⟨s, ad, n1, c, L, be, m1, e, M⟩, rfl, ⟨l1, u1, l2, u2⟩, g1, g2⟩
instance : Inhabited Fi := ⟨dI⟩
set_option maxRecDepth 20000 in
theorem open_fracV {r : Reach} {b0 : Nat} {v : Value} {d : DataW H} {p : List MemPlace} (hv : Value.okWide Tryz.prog w r b0 26 v) (h : DataW.Trod enc Tryz.prog w base sp held 26 v d p) :
    ∃ (s : Bool) (ad : Option Addr) (n c : Nat) (L : List Nat) (be : Option Addr) (m e : Nat) (M : List Nat), v = .agg #[.bool s, .slice ad n c, .slice be m e] ∧ RIn n L m M ∧ (∀ q ∈ [vCells ad (u32s L), vCells be (u32s M)], q.holds (fun _ => False) w) := by
  obtain ⟨cs, rfl, hsz⟩ := okWide_struct Tryz.underlying26 hv
  rw [c26] at hsz
  obtain ⟨c0, c1, c2, rfl⟩ := Go.Joins.array3 hsz
  obtain ⟨fuel, hf⟩ := h
  obtain ⟨y, hy, r, g1, g2⟩ := open_fi (cs := [c0, c1, c2]) rfl hf
  simp only [rc, List.cons.injEq, and_true] at hy
  obtain ⟨rfl, rfl, rfl⟩ := hy
  refine ⟨y.s, y.ad, y.n, y.c, y.L, y.be, y.m, y.e, y.M, rfl, r, ?_⟩
  intro q hq
  simp only [List.mem_cons, List.not_mem_nil, or_false] at hq
  rcases hq with rfl | rfl
  · exact g1
  · exact g2
-- open_fiV
set_option maxRecDepth 20000 in
theorem open_frs {r : Reach} {b0 : Nat} {v : Value} {d : DataW H} {p : List MemPlace} (hv : Value.okWide Tryz.prog w r b0 48 v) (h : DataW.Trod enc Tryz.prog w base sp held 48 v d p) :
    ∃ (ad : Option Addr) (c : Nat) (l : List Fi), v = .slice ad l.length c ∧ (∀ x ∈ l, x.raw) ∧ l.length ≤ 9223372036854775807 ∧ (∀ q ∈ [vCells ad (rcells l), vFis l], q.holds (fun _ => False) w) := by
  obtain ⟨a, len, cap, rfl⟩ := okWide_slice Tryz.underlying48 hv
  obtain ⟨fuel, hf⟩ := h
  obtain ⟨ad, c, l, hs, hn, hg, hc⟩ := open_rows Tryz.underlying48 c26 (by decide) rc_len (fun _ _ _ hl h => open_fi hl h) hf
  refine ⟨ad, c, l, hs, fun x hx => (hg x hx).1, hn, ?_⟩
  intro q hq
  simp only [List.mem_cons, List.not_mem_nil, or_false] at hq
  rcases hq with rfl | rfl
  · exact hc
  · exact fun x hx => (hg x hx).2
end
end Go.Proofs.YtjolkfkekeolcaaGreatDoor
