/- The laws of chapter 48: lists of pairs and editions, opened. -/
import Derived.Test.YthaepkealhkkmaaLaw38c
import Derived.Test.YthaepkealhkkmaaCcC
import Derived.Deep.Slices
namespace Go.Fw
open Go Go.RowKit Go.Nat9 Go.Proofs Go.ChangeShapes Go.WideShapes Go.ChangeAt
section
variable {H : Type} {P : Program} {enc : TypeId × Value → H} {w : World} {base : Nat} {sp : Nat → Bool} {held : Bool}
theorem open_prs {t e : TypeId} {fuel : Nat} {v : Value} {x : DataW H × List MemPlace} (ht : P.underlying t = some (.slice e)) (hsz : P.cellsOf e = 2)
    (hopen : ∀ fuel cs x, cs.length = 2 → DataW.trod enc P w base sp held fuel e cs = some x → ∃ y : Pr, cs = pc y) (h : DataW.trod enc P w base sp held fuel t [v] = some x) :
    ∃ (ad : Option Addr) (c : Nat) (l : List Pr), v = .slice ad l.length c ∧ (l.length ≤ c ∧ c ≤ 9223372036854775807) ∧ CellsAt (fun _ => False) w ad (pcells l) := by
  rcases Go.Deep.open_slice ht h with ⟨hcs, _⟩ | ⟨a, len, cap, m, n, D, Pl, hcs, _, hl, hm, hmm, _, hel⟩
  · simp only [List.cons.injEq, and_true] at hcs
    subst hcs
    exact ⟨none, 0, [], rfl, ⟨Nat.le_refl _, Nat.zero_le _⟩, fun j u hj => by simp [pcells] at hj⟩
  · simp only [List.cons.injEq, and_true] at hcs
    subst hcs
    have hle : len ≤ m := by rw [hmm]; split <;> omega
    obtain ⟨g, hg⟩ := Go.Deep.choose_lt (n := len) (p := fun i (y : Pr) => w.cells? base (a.add (i * 2)) 2 = some (pc y)) (fun i hi => by
      obtain ⟨cs', h1, h2⟩ := hel i (by omega)
      rw [hsz] at h1
      obtain ⟨_, hlen, _⟩ := World.cells?_some h1
      obtain ⟨y, rfl⟩ := hopen _ _ _ hlen h2
      exact ⟨y, h1⟩)
    have hll : ((List.range len).map g).length = len := by simp
    refine ⟨some a, cap, (List.range len).map g, by rw [hll], ⟨by rw [hll]; exact hl, by have : cap ≤ 9223372036854775807 := hm; omega⟩, ?_⟩
    intro j u hj
    have hjl : j < len * 2 := by
      have := (List.getElem?_eq_some_iff.1 hj).1
      rwa [pcells_length, hll] at this
    have hi : j / 2 < len := by omega
    have hr : j % 2 < 2 := Nat.mod_lt _ (by decide)
    have hsum : j / 2 * 2 + j % 2 = j := by omega
    have hgi : ((List.range len).map g)[j / 2]? = some (g (j / 2)) := by rw [List.getElem?_map, List.getElem?_range hi]; rfl
    have h1 := pcells_get hgi (j % 2) hr
    rw [hsum, hj] at h1
    have h2 := (World.cells?_some (hg (j / 2) hi)).2.2 (j % 2) hr
    rw [← h1, Go.Deep.add_add, hsum] at h2
    obtain ⟨b, o, sb⟩ := a
    cases sb with
    | none => exact ⟨b, o, rfl, fun h => h, by rwa [add_lit'] at h2⟩
    | some k =>
      exfalso
      have hpos : 0 < len := Nat.lt_of_le_of_lt (Nat.zero_le _) hi
      have h0 := (World.cells?_some (hg 0 hpos)).2.2 0 (by decide)
      rw [show (Addr.add ⟨b, o, some k⟩ (0 * 2)).add 0 = ⟨b, o, some k⟩ from by simp [Addr.add]] at h0
      unfold World.cell? at h0
      split at h0
      · simp at h0
      · exact absurd h0 (by simp)
end
end Go.Fw
namespace Go.Proofs.Ythaepkealhkkmaa
open Go Go.RowKit Go.Nat9 Go.Fw Go.ChangeShapes Go.WideShapes Go.ChangeAt
theorem c51 : Try.prog.cellsOf 51 = 2 := by kernel_rfl
theorem c48 : Try.prog.cellsOf 48 = 2 := by kernel_rfl
theorem c41 : Try.prog.cellsOf 41 = 2 := by kernel_rfl
theorem c39 : Try.prog.cellsOf 39 = 1 := by kernel_rfl
theorem c28 : Try.prog.cellsOf 28 = 1 := by kernel_rfl
section
variable {H : Type} {enc : TypeId × Value → H} {w : World} {base : Nat} {sp : Nat → Bool} {held : Bool} {r : Reach} {b0 : Nat} {v : Value} {d : DataW H} {p : List MemPlace}
set_option maxRecDepth 20000 in
theorem open_pr {fuel : Nat} {cs : List Value} {x : DataW H × List MemPlace} (hl : cs.length = 2) (h : DataW.trod enc Try.prog w base sp held fuel 51 cs = some x) : ∃ y : Pr, cs = pc y := by
  obtain ⟨c0, c1, rfl⟩ : ∃ a b, cs = [a, b] := by
    match cs, hl with
    | [a, b], _ => exact ⟨a, b, rfl⟩
  obtain ⟨xs, n, _, _, _, hlen, hf⟩ := DataW.trod_struct Try.underlying51 h
  have h0 : DataW.trod enc Try.prog w base sp held n 3 (List.take (Try.prog.cellsOf 3) (List.drop 0 [c0, c1])) = xs[0]? := hf 0 _ rfl
  have h1 : DataW.trod enc Try.prog w base sp held n 3 (List.take (Try.prog.cellsOf 3) (List.drop 1 [c0, c1])) = xs[1]? := hf 1 _ rfl
  rw [List.getElem?_eq_getElem (by rw [hlen]; decide), c3] at h0 h1
  obtain ⟨i, rfl, _, _⟩ := cell_int (c := c0) h0
  obtain ⟨j, rfl, _, _⟩ := cell_int (c := c1) h1
  exact ⟨(i, j), rfl⟩
set_option maxRecDepth 20000 in
theorem open_en {fuel : Nat} {cs : List Value} {x : DataW H × List MemPlace} (hl : cs.length = 2) (h : DataW.trod enc Try.prog w base sp held fuel 48 cs = some x) : ∃ y : Pr, cs = pc y := by
  obtain ⟨c0, c1, rfl⟩ : ∃ a b, cs = [a, b] := by
    match cs, hl with
    | [a, b], _ => exact ⟨a, b, rfl⟩
  obtain ⟨xs, n, _, _, _, hlen, hf⟩ := DataW.trod_struct Try.underlying48 h
  have h0 : DataW.trod enc Try.prog w base sp held n 3 (List.take (Try.prog.cellsOf 3) (List.drop 0 [c0, c1])) = xs[0]? := hf 0 _ rfl
  have h1 : DataW.trod enc Try.prog w base sp held n 3 (List.take (Try.prog.cellsOf 3) (List.drop 1 [c0, c1])) = xs[1]? := hf 1 _ rfl
  rw [List.getElem?_eq_getElem (by rw [hlen]; decide), c3] at h0 h1
  obtain ⟨i, rfl, _, _⟩ := cell_int (c := c0) h0
  obtain ⟨j, rfl, _, _⟩ := cell_int (c := c1) h1
  exact ⟨(i, j), rfl⟩
set_option maxRecDepth 20000 in
theorem open_prsV (hv : Value.okWide Try.prog w r b0 22 v) (h : DataW.Trod enc Try.prog w base sp held 22 v d p) :
    ∃ (ad : Option Addr) (c : Nat) (l : List Pr), v = .slice ad l.length c ∧ (l.length ≤ c ∧ c ≤ 9223372036854775807) ∧ (∀ q ∈ [vCells ad (pcells l)], q.holds (fun _ => False) w) := by
  obtain ⟨a, len, cap, rfl⟩ := okWide_slice Try.underlying22 hv
  obtain ⟨fuel, hf⟩ := h
  obtain ⟨ad, c, l, hs, hb, hc⟩ := open_prs Try.underlying22 c51 (fun _ _ _ hl h => open_pr hl h) hf
  refine ⟨ad, c, l, hs, hb, ?_⟩
  intro q hq
  simp only [List.mem_cons, List.not_mem_nil, or_false] at hq
  subst hq
  exact hc
set_option maxRecDepth 20000 in
theorem open_edV (hv : Value.okWide Try.prog w r b0 41 v) (h : DataW.Trod enc Try.prog w base sp held 41 v d p) :
    ∃ (ad1 : Option Addr) (c1 : Nat) (E : List Pr) (ad2 : Option Addr) (c2 : Nat) (R : List Int), v = .agg #[.slice ad1 E.length c1, .slice ad2 R.length c2] ∧ (∀ q ∈ [vCells ad1 (pcells E), vCells ad2 (i64s R)], q.holds (fun _ => False) w) := by
  obtain ⟨cs, rfl, hsz⟩ := okWide_struct Try.underlying41 hv
  rw [c41] at hsz
  obtain ⟨c0, c1, rfl⟩ := Go.Joins.array2 hsz
  obtain ⟨fuel, hf⟩ := h
  obtain ⟨xs, n, _, _, _, hlen, hf⟩ := DataW.trod_struct Try.underlying41 hf
  have h0 : DataW.trod enc Try.prog w base sp held n 39 (List.take (Try.prog.cellsOf 39) (List.drop 0 [c0, c1])) = xs[0]? := hf 0 _ rfl
  have h1 : DataW.trod enc Try.prog w base sp held n 28 (List.take (Try.prog.cellsOf 28) (List.drop 1 [c0, c1])) = xs[1]? := hf 1 _ rfl
  rw [List.getElem?_eq_getElem (by rw [hlen]; decide)] at h0 h1
  rw [c39] at h0
  rw [c28] at h1
  obtain ⟨ad1, k1, E, rfl, _, g1⟩ := open_prs (v := c0) Try.underlying39 c48 (fun _ _ _ hl h => open_en hl h) h0
  obtain ⟨ad2, k2, R, rfl, _, g2⟩ := open_i64c (v := c1) Try.underlying28 Try.underlying3 c3 h1
  refine ⟨ad1, k1, E, ad2, k2, R, rfl, ?_⟩
  intro q hq
  simp only [List.mem_cons, List.not_mem_nil, or_false] at hq
  rcases hq with rfl | rfl
  · exact g1
  · exact g2
end
end Go.Proofs.Ythaepkealhkkmaa
