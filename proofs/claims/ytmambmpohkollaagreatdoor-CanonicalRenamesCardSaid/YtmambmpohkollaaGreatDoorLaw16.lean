/- The laws of chapter 16: graphs opened. -/
import Derived.Test.YtmambmpohkollaaGreatDoorLaw38c
import Derived.Test.YtmambmpohkollaaGreatDoorCnR
import Derived.Deep.Slices
namespace Go.Fw
open Go Go.RowKit Go.Nat9 Go.Proofs Go.ChangeShapes Go.WideShapes Go.ChangeAt Go.Fw.Cn
section
variable {H : Type} {P : Program} {enc : TypeId × Value → H} {w : World} {base : Nat} {sp : Nat → Bool} {held : Bool}
theorem open_lks {t e : TypeId} {fuel : Nat} {v : Value} {x : DataW H × List MemPlace} (ht : P.underlying t = some (.slice e)) (hsz : P.cellsOf e = 3)
    (hopen : ∀ fuel cs x, cs.length = 3 → DataW.trod enc P w base sp held fuel e cs = some x → ∃ y : Cn.Lk, cs = lk y) (h : DataW.trod enc P w base sp held fuel t [v] = some x) :
    ∃ (ad : Option Addr) (c : Nat) (l : List Cn.Lk), v = .slice ad l.length c ∧ CellsAt (fun _ => False) w ad (lks l) := by
  rcases Go.Deep.open_slice ht h with ⟨hcs, _⟩ | ⟨a, len, cap, m, n, D, Pl, hcs, _, hl, hm, hmm, _, hel⟩
  · simp only [List.cons.injEq, and_true] at hcs
    subst hcs
    exact ⟨none, 0, [], rfl, fun j u hj => by cases hj⟩
  · simp only [List.cons.injEq, and_true] at hcs
    subst hcs
    have hle : len ≤ m := by rw [hmm]; split <;> omega
    obtain ⟨g, hg⟩ := Go.Deep.choose_lt (n := len) (p := fun i (y : Cn.Lk) => w.cells? base (a.add (i * 3)) 3 = some (lk y)) (fun i hi => by
      obtain ⟨cs', h1, h2⟩ := hel i (by omega)
      rw [hsz] at h1
      obtain ⟨_, hlen, _⟩ := World.cells?_some h1
      obtain ⟨y, rfl⟩ := hopen _ _ _ hlen h2
      exact ⟨y, h1⟩)
    have hll : ((List.range len).map g).length = len := by simp
    refine ⟨some a, cap, (List.range len).map g, by rw [hll], ?_⟩
    intro j u hj
    have hjl : j < len * 3 := by
      have := (List.getElem?_eq_some_iff.1 hj).1
      rwa [lks_length, hll] at this
    have hi : j / 3 < len := by omega
    have hr : j % 3 < 3 := Nat.mod_lt _ (by decide)
    have hsum : j / 3 * 3 + j % 3 = j := by omega
    have hgi : ((List.range len).map g).getD (j / 3) dK = g (j / 3) := by rw [List.getD_eq_getElem?_getD, List.getElem?_map, List.getElem?_range hi]; rfl
    obtain ⟨v0, hv0⟩ : ∃ v0, (lk (g (j / 3)))[j % 3]? = some v0 := ⟨_, List.getElem?_eq_getElem hr⟩
    have h1 := lks_get (l := (List.range len).map g) (j := j / 3) (by omega) (j % 3) v0 (by rw [hgi]; exact hv0)
    rw [hsum, hj] at h1
    have h2 := (World.cells?_some (hg (j / 3) hi)).2.2 (j % 3) hr
    rw [hv0, ← h1, Go.Deep.add_add, hsum] at h2
    obtain ⟨b, o, sb⟩ := a
    cases sb with
    | none => exact ⟨b, o, rfl, fun h => h, by rwa [add_lit'] at h2⟩
    | some k =>
      exfalso
      have hpos : 0 < len := Nat.lt_of_le_of_lt (Nat.zero_le _) hi
      have h0 := (World.cells?_some (hg 0 hpos)).2.2 0 (by decide)
      rw [show (Addr.add ⟨b, o, some k⟩ (0 * 3)).add 0 = ⟨b, o, some k⟩ from by simp [Addr.add]] at h0
      unfold World.cell? at h0
      split at h0
      · simp at h0
      · exact absurd h0 (by simp)
end
end Go.Fw
namespace Go.Proofs.YtmambmpohkollaaGreatDoor
open Go Go.RowKit Go.Nat9 Go.Fw Go.ChangeShapes Go.WideShapes Go.ChangeAt Go.Fw.Cn
theorem cLk : Tryz.prog.cellsOf 66 = 3 := by kernel_rfl
theorem cGr : Tryz.prog.cellsOf 25 = 3 := by kernel_rfl
theorem cSi : Tryz.prog.cellsOf 22 = 1 := by kernel_rfl
theorem cSl : Tryz.prog.cellsOf 23 = 1 := by kernel_rfl
section
variable {H : Type} {enc : TypeId × Value → H} {w : World} {base : Nat} {sp : Nat → Bool} {held : Bool} {r : Reach} {b0 : Nat} {v : Value} {d : DataW H} {p : List MemPlace}
set_option maxRecDepth 20000 in
theorem open_lk {fuel : Nat} {cs : List Value} {x : DataW H × List MemPlace} (hl : cs.length = 3) (h : DataW.trod enc Tryz.prog w base sp held fuel 66 cs = some x) : ∃ y : Cn.Lk, cs = lk y := by
  obtain ⟨c0, c1, c2, rfl⟩ : ∃ a b c, cs = [a, b, c] := by
    match cs, hl with
    | [a, b, c], _ => exact ⟨a, b, c, rfl⟩
  obtain ⟨xs, n, _, _, _, hlen, hf⟩ := DataW.trod_struct Tryz.underlying66 h
  have h0 : DataW.trod enc Tryz.prog w base sp held n 3 (List.take (Tryz.prog.cellsOf 3) (List.drop 0 [c0, c1, c2])) = xs[0]? := hf 0 _ rfl
  have h1 : DataW.trod enc Tryz.prog w base sp held n 3 (List.take (Tryz.prog.cellsOf 3) (List.drop 1 [c0, c1, c2])) = xs[1]? := hf 1 _ rfl
  have h2 : DataW.trod enc Tryz.prog w base sp held n 3 (List.take (Tryz.prog.cellsOf 3) (List.drop 2 [c0, c1, c2])) = xs[2]? := hf 2 _ rfl
  rw [List.getElem?_eq_getElem (by rw [hlen]; decide), c3] at h0 h1 h2
  obtain ⟨i, rfl, _, _⟩ := cell_int (c := c0) h0
  obtain ⟨j, rfl, _, _⟩ := cell_int (c := c1) h1
  obtain ⟨k, rfl, _, _⟩ := cell_int (c := c2) h2
  exact ⟨⟨i, j, k⟩, rfl⟩
set_option maxRecDepth 20000 in
theorem open_grV (hv : Value.okWide Tryz.prog w r b0 25 v) (h : DataW.Trod enc Tryz.prog w base sp held 25 v d p) :
    ∃ (ad1 : Option Addr) (c1 : Nat) (O : List Int) (ad2 : Option Addr) (c2 : Nat) (R : List Int) (ad3 : Option Addr) (c3 : Nat) (K : List Cn.Lk), v = .agg #[.slice ad1 O.length c1, .slice ad2 R.length c2, .slice ad3 K.length c3] ∧ (∀ q ∈ [vCells ad1 (i64s O), vCells ad2 (i64s R), vCells ad3 (lks K)], q.holds (fun _ => False) w) := by
  obtain ⟨cs, rfl, hsz⟩ := okWide_struct Tryz.underlying25 hv
  rw [cGr] at hsz
  obtain ⟨c0, c1, c2, rfl⟩ : ∃ a b c, cs = #[a, b, c] := by
    obtain ⟨l⟩ := cs
    match l, hsz with
    | [a, b, c], _ => exact ⟨a, b, c, rfl⟩
  obtain ⟨fuel, hf⟩ := h
  obtain ⟨xs, n, _, _, _, hlen, hf⟩ := DataW.trod_struct Tryz.underlying25 hf
  have h0 : DataW.trod enc Tryz.prog w base sp held n 22 (List.take (Tryz.prog.cellsOf 22) (List.drop 0 [c0, c1, c2])) = xs[0]? := hf 0 _ rfl
  have h1 : DataW.trod enc Tryz.prog w base sp held n 22 (List.take (Tryz.prog.cellsOf 22) (List.drop 1 [c0, c1, c2])) = xs[1]? := hf 1 _ rfl
  have h2 : DataW.trod enc Tryz.prog w base sp held n 23 (List.take (Tryz.prog.cellsOf 23) (List.drop 2 [c0, c1, c2])) = xs[2]? := hf 2 _ rfl
  rw [List.getElem?_eq_getElem (by rw [hlen]; decide)] at h0 h1 h2
  rw [cSi] at h0 h1
  rw [cSl] at h2
  obtain ⟨ad1, k1, O, rfl, g1⟩ := open_i64s (v := c0) Tryz.underlying22 Tryz.underlying3 c3 h0
  obtain ⟨ad2, k2, R, rfl, g2⟩ := open_i64s (v := c1) Tryz.underlying22 Tryz.underlying3 c3 h1
  obtain ⟨ad3, k3, K, rfl, g3⟩ := open_lks (v := c2) Tryz.underlying23 cLk (fun _ _ _ hl h => open_lk hl h) h2
  refine ⟨ad1, k1, O, ad2, k2, R, ad3, k3, K, rfl, ?_⟩
  intro q hq
  simp only [List.mem_cons, List.not_mem_nil, or_false] at hq
  rcases hq with rfl | rfl | rfl
  · exact g1
  · exact g2
  · exact g3
end
end Go.Proofs.YtmambmpohkollaaGreatDoor
