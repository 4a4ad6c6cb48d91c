/- The laws of chapter 24: lists of arcs and small arrays, opened. -/
import Derived.Test.YtjdojhhngganeaaGreatDoorLaw40
import Derived.Test.YtjdojhhngganeaaGreatDoorCcA
import Derived.Deep.Slices
namespace Go.Fw
open Go Go.RowKit Go.Nat9 Go.Proofs Go.ChangeShapes Go.WideShapes Go.ChangeAt
section
variable {H : Type} {P : Program} {enc : TypeId × Value → H} {w : World} {base : Nat} {sp : Nat → Bool} {held : Bool}
theorem open_prs {t e : TypeId} {fuel : Nat} {v : Value} {x : DataW H × List MemPlace} (ht : P.underlying t = some (.slice e)) (hsz : P.cellsOf e = 2)
    (hopen : ∀ fuel cs x, cs.length = 2 → DataW.trod enc P w base sp held fuel e cs = some x → ∃ y : Pr, cs = pc y) (h : DataW.trod enc P w base sp held fuel t [v] = some x) :
    ∃ (ad : Option Addr) (c : Nat) (l : List Pr), v = .slice ad l.length c ∧ (l.length ≤ c ∧ c ≤ 9223372036854775807) ∧ CellsAt (fun _ => False) w ad (pcells l) := by
  rcases Go.Deep.open_slice ht h with ⟨hcs, _⟩ | ⟨a, len, cap, m, n, D, Pl, hcs, _, hl, hm, hmm, _, hel⟩
  · simp only [List.cons.injEq, and_true] at hcs
    subst hcs
    exact ⟨none, 0, [], rfl, ⟨Nat.le_refl _, Nat.zero_le _⟩, fun j u hj => by simp [pcells] at hj⟩
  · simp only [List.cons.injEq, and_true] at hcs
    subst hcs
    have hle : len ≤ m := by rw [hmm]; split <;> omega
    obtain ⟨g, hg⟩ := Go.Deep.choose_lt (n := len) (p := fun i (y : Pr) => w.cells? base (a.add (i * 2)) 2 = some (pc y)) (fun i hi => by
      obtain ⟨cs', h1, h2⟩ := hel i (by omega)
      rw [hsz] at h1
      obtain ⟨_, hlen, _⟩ := World.cells?_some h1
      obtain ⟨y, rfl⟩ := hopen _ _ _ hlen h2
      exact ⟨y, h1⟩)
    have hll : ((List.range len).map g).length = len := by simp
    refine ⟨some a, cap, (List.range len).map g, by rw [hll], ⟨by rw [hll]; exact hl, by have : cap ≤ 9223372036854775807 := hm; omega⟩, ?_⟩
    intro j u hj
    have hjl : j < len * 2 := by
      have := (List.getElem?_eq_some_iff.1 hj).1
      rwa [pcells_length, hll] at this
    have hi : j / 2 < len := by omega
    have hr : j % 2 < 2 := Nat.mod_lt _ (by decide)
    have hsum : j / 2 * 2 + j % 2 = j := by omega
    have hgi : ((List.range len).map g)[j / 2]? = some (g (j / 2)) := by rw [List.getElem?_map, List.getElem?_range hi]; rfl
    have h1 := pcells_get hgi (j % 2) hr
    rw [hsum, hj] at h1
    have h2 := (World.cells?_some (hg (j / 2) hi)).2.2 (j % 2) hr
    rw [← h1, Go.Deep.add_add, hsum] at h2
    obtain ⟨b, o, sb⟩ := a
    cases sb with
    | none => exact ⟨b, o, rfl, fun h => h, by rwa [add_lit'] at h2⟩
    | some k =>
      exfalso
      have hpos : 0 < len := Nat.lt_of_le_of_lt (Nat.zero_le _) hi
      have h0 := (World.cells?_some (hg 0 hpos)).2.2 0 (by decide)
      rw [show (Addr.add ⟨b, o, some k⟩ (0 * 2)).add 0 = ⟨b, o, some k⟩ from by simp [Addr.add]] at h0
      unfold World.cell? at h0
      split at h0
      · simp at h0
      · exact absurd h0 (by simp)
end
end Go.Fw
namespace Go.Proofs.YtjdojhhngganeaaGreatDoor
open Go Go.RowKit Go.Nat9 Go.Fw Go.ChangeShapes Go.WideShapes Go.ChangeAt
theorem cArc : Tryz.prog.cellsOf 53 = 2 := by kernel_rfl
theorem c5 : Tryz.prog.cellsOf 5 = 1 := by kernel_rfl
theorem cA2 : Tryz.prog.cellsOf 48 = 2 := by kernel_rfl
theorem cI2 : Tryz.prog.cellsOf 23 = 2 := by kernel_rfl
theorem u8_of {n : Int} (h : (Lit.int .u8 n).wf = true) : ∃ k : Nat, n = (k : Int) ∧ k < 256 := by
  simp only [Lit.wf, Bool.and_eq_true, IntKind.min, IntKind.max, IntKind.bits, IntKind.signed] at h
  simp at h
  exact ⟨n.toNat, by omega, by omega⟩
theorem okWide_array {P : Program} {w : World} {r : Reach} {base n : Nat} {t e : TypeId} {v : Value} (ht : P.underlying t = some (.array n e)) (h : Value.okWide P w r base t v) : ∃ cs, v = .agg cs ∧ cs.size = P.cellsOf t := by
  simp only [Value.okWide, ht] at h
  obtain ⟨cs, h1, h2, _⟩ := h
  exact ⟨cs, h1, h2⟩
section
variable {H : Type} {enc : TypeId × Value → H} {w : World} {base : Nat} {sp : Nat → Bool} {held : Bool} {r : Reach} {b0 : Nat} {v : Value} {d : DataW H} {p : List MemPlace}
set_option maxRecDepth 20000 in
theorem open_arc {fuel : Nat} {cs : List Value} {x : DataW H × List MemPlace} (hl : cs.length = 2) (h : DataW.trod enc Tryz.prog w base sp held fuel 53 cs = some x) : ∃ y : Pr, cs = pc y := by
  obtain ⟨c0, c1, rfl⟩ : ∃ a b, cs = [a, b] := by
    match cs, hl with
    | [a, b], _ => exact ⟨a, b, rfl⟩
  obtain ⟨xs, n, _, _, _, hlen, hf⟩ := DataW.trod_struct Tryz.underlying53 h
  have h0 : DataW.trod enc Tryz.prog w base sp held n 3 (List.take (Tryz.prog.cellsOf 3) (List.drop 0 [c0, c1])) = xs[0]? := hf 0 _ rfl
  have h1 : DataW.trod enc Tryz.prog w base sp held n 3 (List.take (Tryz.prog.cellsOf 3) (List.drop 1 [c0, c1])) = xs[1]? := hf 1 _ rfl
  rw [List.getElem?_eq_getElem (by rw [hlen]; decide), c3] at h0 h1
  obtain ⟨i, rfl, _, _⟩ := cell_int (c := c0) h0
  obtain ⟨j, rfl, _, _⟩ := cell_int (c := c1) h1
  exact ⟨(i, j), rfl⟩
set_option maxRecDepth 20000 in
theorem open_arcsV (hv : Value.okWide Tryz.prog w r b0 22 v) (h : DataW.Trod enc Tryz.prog w base sp held 22 v d p) :
    ∃ (ad : Option Addr) (c : Nat) (l : List Pr), v = .slice ad l.length c ∧ (l.length ≤ c ∧ c ≤ 9223372036854775807) ∧ (∀ q ∈ [vCells ad (pcells l)], q.holds (fun _ => False) w) := by
  obtain ⟨a, len, cap, rfl⟩ := okWide_slice Tryz.underlying22 hv
  obtain ⟨fuel, hf⟩ := h
  obtain ⟨ad, c, l, hs, hb, hc⟩ := open_prs Tryz.underlying22 cArc (fun _ _ _ hl h => open_arc hl h) hf
  refine ⟨ad, c, l, hs, hb, ?_⟩
  intro q hq
  simp only [List.mem_cons, List.not_mem_nil, or_false] at hq
  subst hq
  exact hc
theorem cell_u8 {fuel : Nat} {c : Value} {x : DataW H × List MemPlace} (h : DataW.trod enc Tryz.prog w base sp held fuel 5 [c] = some x) : ∃ k : Nat, c = .int .u8 (k : Nat) ∧ k < 256 := by
  obtain ⟨n, hc, _, hw⟩ := DataW.trod_int Tryz.underlying5 h
  obtain ⟨k, rfl, hk⟩ := u8_of hw
  simp only [List.cons.injEq, and_true] at hc
  exact ⟨k, hc, hk⟩
set_option maxRecDepth 20000 in
theorem open_u8x2 (hv : Value.okWide Tryz.prog w r b0 48 v) (h : DataW.Trod enc Tryz.prog w base sp held 48 v d p) : ∃ a b : Nat, v = .agg #[.int .u8 (a : Nat), .int .u8 (b : Nat)] ∧ a < 256 ∧ b < 256 := by
  obtain ⟨cs, rfl, hsz⟩ := okWide_array Tryz.underlying48 hv
  rw [cA2] at hsz
  obtain ⟨c0, c1, rfl⟩ := Go.Joins.array2 hsz
  obtain ⟨fuel, hf⟩ := h
  obtain ⟨xs, m, _, _, _, hlen, he⟩ := DataW.trod_array Tryz.underlying48 hf
  have h0 := he 0 (by decide)
  have h1 := he 1 (by decide)
  rw [List.getElem?_eq_getElem (by rw [hlen]; decide), c5] at h0 h1
  obtain ⟨a, rfl, ha⟩ := cell_u8 (c := c0) h0
  obtain ⟨b, rfl, hb⟩ := cell_u8 (c := c1) h1
  exact ⟨a, b, rfl, ha, hb⟩
set_option maxRecDepth 20000 in
theorem open_i64x2 (hv : Value.okWide Tryz.prog w r b0 23 v) (h : DataW.Trod enc Tryz.prog w base sp held 23 v d p) : ∃ i j : Int, v = .agg #[.int .i64 i, .int .i64 j] ∧ -9223372036854775808 ≤ i ∧ i ≤ 9223372036854775807 ∧ -9223372036854775808 ≤ j ∧ j ≤ 9223372036854775807 := by
  obtain ⟨cs, rfl, hsz⟩ := okWide_array Tryz.underlying23 hv
  rw [cI2] at hsz
  obtain ⟨c0, c1, rfl⟩ := Go.Joins.array2 hsz
  obtain ⟨fuel, hf⟩ := h
  obtain ⟨xs, m, _, _, _, hlen, he⟩ := DataW.trod_array Tryz.underlying23 hf
  have h0 := he 0 (by decide)
  have h1 := he 1 (by decide)
  rw [List.getElem?_eq_getElem (by rw [hlen]; decide), c3] at h0 h1
  obtain ⟨i, rfl, i1, i2⟩ := cell_int (c := c0) h0
  obtain ⟨j, rfl, j1, j2⟩ := cell_int (c := c1) h1
  exact ⟨i, j, rfl, i1, i2, j1, j2⟩
end
end Go.Proofs.YtjdojhhngganeaaGreatDoor
