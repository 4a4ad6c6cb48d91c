/- The laws of chapter 28: lists of rows, opened. -/
import Derived.Test.YtjkbamfcoiikmaaGreatDoorLaw40
import Derived.Test.YtjkbamfcoiikmaaGreatDoorPqKM
import Derived.Deep.Slices
namespace Go.Fw.Pq
open Go Go.RowKit Go.Nat9 Go.Proofs Go.ChangeShapes Go.WideShapes Go.ChangeAt Go.Fw
section
variable {H : Type} {P : Program} {enc : TypeId × Value → H} {w : World} {base : Nat} {sp : Nat → Bool} {held : Bool}
theorem open_rws {t e ei : TypeId} {fuel : Nat} {v : Value} {x : DataW H × List MemPlace} (ht : P.underlying t = some (.slice e)) (hsz : P.cellsOf e = 1) (he : P.underlying e = some (.slice ei)) (hei : P.underlying ei = some (.int .i64)) (hc : P.cellsOf ei = 1)
    (h : DataW.trod enc P w base sp held fuel t [v] = some x) :
    ∃ (ad : Option Addr) (c : Nat) (l : List Rw), v = .slice ad l.length c ∧ (l.length ≤ c ∧ c ≤ 9223372036854775807) ∧ CellsAt (fun _ => False) w ad (rws l) ∧ ∀ r ∈ l, CellsAt (fun _ => False) w r.ad (i64s r.L) := by
  rcases Go.Deep.open_slice ht h with ⟨hcs, _⟩ | ⟨a, len, cap, m, n, D, Pl, hcs, _, hl, hm, hmm, _, hel⟩
  · simp only [List.cons.injEq, and_true] at hcs
    subst hcs
    exact ⟨none, 0, [], rfl, ⟨Nat.le_refl _, Nat.zero_le _⟩, (fun j u hj => by simp [rws] at hj), fun r hr => by cases hr⟩
  · simp only [List.cons.injEq, and_true] at hcs
    subst hcs
    have hle : len ≤ m := by rw [hmm]; split <;> omega
    obtain ⟨g, hg⟩ := Go.Deep.choose_lt (n := len) (p := fun i (r : Rw) => w.cells? base (a.add (i * 1)) 1 = some [r.v] ∧ CellsAt (fun _ => False) w r.ad (i64s r.L)) (fun i hi => by
      obtain ⟨cs', h1, h2⟩ := hel i (by omega)
      rw [hsz] at h1
      obtain ⟨_, hlen, _⟩ := World.cells?_some h1
      match cs', hlen with
      | [c'], _ =>
        obtain ⟨ad', c2, L, rfl, hcc⟩ := open_i64s he hei hc h2
        exact ⟨⟨ad', c2, L⟩, h1, hcc⟩)
    have hll : ((List.range len).map g).length = len := by simp
    refine ⟨some a, cap, (List.range len).map g, by rw [hll], ⟨by rw [hll]; exact hl, by have : cap ≤ 9223372036854775807 := hm; omega⟩, ?_, fun r hr => ?_⟩
    · intro j u hj
      have hjl : j < len := by
        have := (List.getElem?_eq_some_iff.1 hj).1
        rwa [rws_length, hll] at this
      have h1 : u = (g j).v := by
        rw [List.getElem?_map, List.getElem?_map, List.getElem?_range hjl] at hj
        exact (Option.some.inj hj).symm
      have h2 := (World.cells?_some (hg j hjl).1).2.2 0 (by omega)
      rw [Go.Deep.add_add, Nat.mul_one, Nat.add_zero] at h2
      obtain ⟨b, o, sb⟩ := a
      cases sb with
      | none => exact ⟨b, o, rfl, fun h => h, by rw [h1]; rw [add_lit'] at h2; exact h2⟩
      | some k =>
        exfalso
        have h0 := (World.cells?_some (hg 0 (by omega)).1).2.2 0 (by omega)
        rw [Go.Deep.add_add, show Addr.add ⟨b, o, some k⟩ (0 * 1 + 0) = ⟨b, o, some k⟩ from by simp [Addr.add]] at h0
        unfold World.cell? at h0
        split at h0
        · simp at h0
        · cases h0
    · obtain ⟨i, hi, rfl⟩ := List.mem_map.1 hr
      exact (hg i (List.mem_range.1 hi)).2
end
end Go.Fw.Pq
namespace Go.Proofs.YtjkbamfcoiikmaaGreatDoor
open Go Go.RowKit Go.Nat9 Go.Fw Go.ChangeShapes Go.WideShapes Go.ChangeAt Go.Fw.Pq
theorem c23 : Tryz.prog.cellsOf 32 = 1 := by kernel_rfl
section
variable {H : Type} {enc : TypeId × Value → H} {w : World} {base : Nat} {sp : Nat → Bool} {held : Bool} {r : Reach} {b0 : Nat} {v : Value} {d : DataW H} {p : List MemPlace}
set_option maxRecDepth 20000 in
theorem open_rowsV (hv : Value.okWide Tryz.prog w r b0 22 v) (h : DataW.Trod enc Tryz.prog w base sp held 22 v d p) :
    ∃ (ad : Option Addr) (c : Nat) (l : List Rw), v = .slice ad l.length c ∧ (l.length ≤ c ∧ c ≤ 9223372036854775807) ∧ (∀ q ∈ [vCells ad (rws l), vRws l], q.holds (fun _ => False) w) := by
  obtain ⟨a, len, cap, rfl⟩ := okWide_slice Tryz.underlying22 hv
  obtain ⟨fuel, hf⟩ := h
  obtain ⟨ad, c, l, hs, hb, hc, hr⟩ := open_rws Tryz.underlying22 c23 Tryz.underlying32 Tryz.underlying3 c3 hf
  refine ⟨ad, c, l, hs, hb, ?_⟩
  intro q hq
  simp only [List.mem_cons, List.not_mem_nil, or_false] at hq
  rcases hq with rfl | rfl
  · exact hc
  · exact hr
end
end Go.Proofs.YtjkbamfcoiikmaaGreatDoor
