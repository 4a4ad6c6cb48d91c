/- The laws of chapter 18: lists of specimens and of small numbers, opened. -/
import Derived.Test.YtfkfmpfohaomhaaGreatLaw38c
import Derived.Test.YtfkfmpfohaomhaaGreatCoBF
import Derived.Deep.Slices
namespace Go.Fw
open Go Go.RowKit Go.Nat9 Go.Proofs Go.ChangeShapes Go.WideShapes Go.ChangeAt
instance : Inhabited Spc := ⟨dS⟩
section
variable {H : Type} {P : Program} {enc : TypeId × Value → H} {w : World} {base : Nat} {sp : Nat → Bool} {held : Bool}
theorem open_spcs {t e : TypeId} {fuel : Nat} {v : Value} {x : DataW H × List MemPlace} (ht : P.underlying t = some (.slice e)) (hsz : P.cellsOf e = 7)
    (hopen : ∀ fuel cs x, cs.length = 7 → DataW.trod enc P w base sp held fuel e cs = some x → ∃ y : Spc, cs = sc y) (h : DataW.trod enc P w base sp held fuel t [v] = some x) :
    ∃ (ad : Option Addr) (c : Nat) (l : List Spc), v = .slice ad l.length c ∧ (l.length ≤ c ∧ c ≤ 9223372036854775807) ∧ CellsAt (fun _ => False) w ad (scells l) := by
  rcases Go.Deep.open_slice ht h with ⟨hcs, _⟩ | ⟨a, len, cap, m, n, D, Pl, hcs, _, hl, hm, hmm, _, hel⟩
  · simp only [List.cons.injEq, and_true] at hcs
    subst hcs
    exact ⟨none, 0, [], rfl, ⟨Nat.le_refl _, Nat.zero_le _⟩, fun j u hj => by simp [scells] at hj⟩
  · simp only [List.cons.injEq, and_true] at hcs
    subst hcs
    have hle : len ≤ m := by rw [hmm]; split <;> omega
    obtain ⟨g, hg⟩ := Go.Deep.choose_lt (n := len) (p := fun i (y : Spc) => w.cells? base (a.add (i * 7)) 7 = some (sc y)) (fun i hi => by
      obtain ⟨cs', h1, h2⟩ := hel i (by omega)
      rw [hsz] at h1
      obtain ⟨_, hlen, _⟩ := World.cells?_some h1
      obtain ⟨y, rfl⟩ := hopen _ _ _ hlen h2
      exact ⟨y, h1⟩)
    have hll : ((List.range len).map g).length = len := by simp
    refine ⟨some a, cap, (List.range len).map g, by rw [hll], ⟨by rw [hll]; exact hl, by have : cap ≤ 9223372036854775807 := hm; omega⟩, ?_⟩
    intro j u hj
    have hjl : j < len * 7 := by
      have := (List.getElem?_eq_some_iff.1 hj).1
      rwa [scells_length, hll] at this
    have hi : j / 7 < len := by omega
    have hr : j % 7 < 7 := Nat.mod_lt _ (by decide)
    have hsum : j / 7 * 7 + j % 7 = j := by omega
    have hgi : ((List.range len).map g)[j / 7]? = some (g (j / 7)) := by rw [List.getElem?_map, List.getElem?_range hi]; rfl
    have h1 := scells_get hgi (j % 7) hr
    rw [hsum, hj] at h1
    have h2 := (World.cells?_some (hg (j / 7) hi)).2.2 (j % 7) hr
    rw [← h1, Go.Deep.add_add, hsum] at h2
    obtain ⟨b, o, sb⟩ := a
    cases sb with
    | none => exact ⟨b, o, rfl, fun h => h, by rwa [add_lit'] at h2⟩
    | some k =>
      exfalso
      have hpos : 0 < len := Nat.lt_of_le_of_lt (Nat.zero_le _) hi
      have h0 := (World.cells?_some (hg 0 hpos)).2.2 0 (by decide)
      rw [show (Addr.add ⟨b, o, some k⟩ (0 * 7)).add 0 = ⟨b, o, some k⟩ from by simp [Addr.add]] at h0
      unfold World.cell? at h0
      split at h0
      · simp at h0
      · exact absurd h0 (by simp)
end
end Go.Fw
namespace Go.Proofs.YtfkfmpfohaomhaaGreat
open Go Go.RowKit Go.Nat9 Go.Fw Go.ChangeShapes Go.WideShapes Go.ChangeAt
theorem c39 : Tryz.prog.cellsOf 53 = 7 := by kernel_rfl
section
variable {H : Type} {enc : TypeId × Value → H} {w : World} {base : Nat} {sp : Nat → Bool} {held : Bool} {r : Reach} {b0 : Nat} {v : Value} {d : DataW H} {p : List MemPlace}
set_option maxRecDepth 20000 in
theorem open_spc {fuel : Nat} {cs : List Value} {x : DataW H × List MemPlace} (hl : cs.length = 7) (h : DataW.trod enc Tryz.prog w base sp held fuel 53 cs = some x) : ∃ y : Spc, cs = sc y := by
  obtain ⟨c0, c1, c2, c3', c4, c5, c6, rfl⟩ : ∃ a b c d e f g, cs = [a, b, c, d, e, f, g] := by
    match cs, hl with
    | [a, b, c, d, e, f, g], _ => exact ⟨a, b, c, d, e, f, g, rfl⟩
  obtain ⟨xs, n, _, _, _, hlen, hf⟩ := DataW.trod_struct Tryz.underlying53 h
  have h0 : DataW.trod enc Tryz.prog w base sp held n 3 (List.take (Tryz.prog.cellsOf 3) (List.drop 0 [c0, c1, c2, c3', c4, c5, c6])) = xs[0]? := hf 0 _ rfl
  have h1 : DataW.trod enc Tryz.prog w base sp held n 3 (List.take (Tryz.prog.cellsOf 3) (List.drop 1 [c0, c1, c2, c3', c4, c5, c6])) = xs[1]? := hf 1 _ rfl
  have h2 : DataW.trod enc Tryz.prog w base sp held n 3 (List.take (Tryz.prog.cellsOf 3) (List.drop 2 [c0, c1, c2, c3', c4, c5, c6])) = xs[2]? := hf 2 _ rfl
  have h3 : DataW.trod enc Tryz.prog w base sp held n 3 (List.take (Tryz.prog.cellsOf 3) (List.drop 3 [c0, c1, c2, c3', c4, c5, c6])) = xs[3]? := hf 3 _ rfl
  have h4 : DataW.trod enc Tryz.prog w base sp held n 3 (List.take (Tryz.prog.cellsOf 3) (List.drop 4 [c0, c1, c2, c3', c4, c5, c6])) = xs[4]? := hf 4 _ rfl
  have h5 : DataW.trod enc Tryz.prog w base sp held n 3 (List.take (Tryz.prog.cellsOf 3) (List.drop 5 [c0, c1, c2, c3', c4, c5, c6])) = xs[5]? := hf 5 _ rfl
  have h6 : DataW.trod enc Tryz.prog w base sp held n 3 (List.take (Tryz.prog.cellsOf 3) (List.drop 6 [c0, c1, c2, c3', c4, c5, c6])) = xs[6]? := hf 6 _ rfl
  rw [List.getElem?_eq_getElem (by rw [hlen]; decide), c3] at h0 h1 h2 h3 h4 h5 h6
  obtain ⟨i0, rfl, _, _⟩ := cell_int (c := c0) h0
  obtain ⟨i1, rfl, _, _⟩ := cell_int (c := c1) h1
  obtain ⟨i2, rfl, _, _⟩ := cell_int (c := c2) h2
  obtain ⟨i3, rfl, _, _⟩ := cell_int (c := c3') h3
  obtain ⟨i4, rfl, _, _⟩ := cell_int (c := c4) h4
  obtain ⟨i5, rfl, _, _⟩ := cell_int (c := c5) h5
  obtain ⟨i6, rfl, _, _⟩ := cell_int (c := c6) h6
  exact ⟨⟨i0, i1, i2, i3, i4, i5, i6⟩, rfl⟩
set_option maxRecDepth 20000 in
theorem open_spcV (hv : Value.okWide Tryz.prog w r b0 22 v) (h : DataW.Trod enc Tryz.prog w base sp held 22 v d p) :
    ∃ (ad : Option Addr) (c : Nat) (l : List Spc), v = .slice ad l.length c ∧ (l.length ≤ c ∧ c ≤ 9223372036854775807) ∧ (∀ q ∈ [vCells ad (scells l)], q.holds (fun _ => False) w) := by
  obtain ⟨a, len, cap, rfl⟩ := okWide_slice Tryz.underlying22 hv
  obtain ⟨fuel, hf⟩ := h
  obtain ⟨ad, c, l, hs, hb, hc⟩ := open_spcs Tryz.underlying22 c39 (fun _ _ _ hl h => open_spc hl h) hf
  refine ⟨ad, c, l, hs, hb, ?_⟩
  intro q hq
  simp only [List.mem_cons, List.not_mem_nil, or_false] at hq
  subst hq
  exact hc
end
end Go.Proofs.YtfkfmpfohaomhaaGreat
