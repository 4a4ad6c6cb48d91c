/- The laws: a list of numbers opened, with its bounds. -/
import Derived.Test.YtmambmpohkollaaGreatDoorLaw40
namespace Go.Fw
open Go Go.RowKit Go.Nat9 Go.Proofs Go.ChangeShapes Go.WideShapes Go.ChangeAt
section
variable {H : Type} {P : Program} {enc : TypeId × Value → H} {w : World} {base : Nat} {sp : Nat → Bool} {held : Bool}
theorem open_i64c {ts e : TypeId} {fuel : Nat} {v : Value} {x : DataW H × List MemPlace} (ht : P.underlying ts = some (.slice e)) (he : P.underlying e = some (.int .i64)) (hc : P.cellsOf e = 1)
    (h : DataW.trod enc P w base sp held fuel ts [v] = some x) : ∃ (ad : Option Addr) (c : Nat) (L : List Int), v = .slice ad L.length c ∧ (L.length ≤ c ∧ c ≤ 9223372036854775807 ∧ ∀ z ∈ L, (Lit.int .i64 z).wf = true) ∧ CellsAt (fun _ => False) w ad (i64s L) := by
  rcases open_ints ht he hc h with ⟨hcs, _⟩ | ⟨a, len, cap, zs, hcs, _, hl, hm, hlen, _, hcell, hwf⟩
  · simp only [List.cons.injEq, and_true] at hcs
    subst hcs
    exact ⟨none, 0, [], rfl, ⟨Nat.le_refl _, Nat.zero_le _, fun z hz => by cases hz⟩, fun j u hj => by simp [i64s] at hj⟩
  · simp only [List.cons.injEq, and_true] at hcs
    subst hcs
    have hle : len ≤ zs.length := by rw [hlen]; split <;> omega
    have hlt : (zs.take len).length = len := by simp; omega
    refine ⟨some a, cap, zs.take len, by rw [hlt], ⟨by rw [hlt]; exact hl, by unfold maxLen at hm; omega, fun z hz => hwf z (List.mem_of_mem_take hz)⟩, ?_⟩
    intro j u hj
    have hjl : j < len := by
      have := (List.getElem?_eq_some_iff.1 hj).1
      rw [i64s_length, hlt] at this
      exact this
    have hc0 := hcell j (by omega)
    have hz : zs[j]? = some (zs.getD j 0) := by
      rw [List.getD_eq_getElem?_getD, List.getElem?_eq_getElem (by omega)]; rfl
    have hu : u = .int .i64 (zs.getD j 0) := by
      rw [i64s, List.getElem?_map, List.getElem?_take, if_pos hjl, hz] at hj
      exact (Option.some.inj hj).symm
    obtain ⟨b, o, sp⟩ := a
    cases sp with
    | none => exact ⟨b, o, rfl, fun h => h, by rw [hu]; rwa [add_lit'] at hc0⟩
    | some k =>
      exfalso
      have h0 := hcell 0 (by omega)
      rw [show Addr.add ⟨b, o, some k⟩ 0 = ⟨b, o, some k⟩ from by simp [Addr.add]] at h0
      unfold World.cell? at h0
      split at h0
      · simp at h0
      · cases h0
end
end Go.Fw
namespace Go.Proofs.YtmambmpohkollaaGreatDoor
open Go Go.RowKit Go.Nat9 Go.Fw Go.ChangeShapes Go.WideShapes Go.ChangeAt
section
variable {H : Type} {enc : TypeId × Value → H} {w : World} {base : Nat} {sp : Nat → Bool} {held : Bool} {r : Reach} {b0 : Nat} {v : Value} {d : DataW H} {p : List MemPlace}
set_option maxRecDepth 20000 in
theorem open_intsC (hv : Value.okWide Tryz.prog w r b0 22 v) (h : DataW.Trod enc Tryz.prog w base sp held 22 v d p) :
    ∃ (ad : Option Addr) (c : Nat) (L : List Int), v = .slice ad L.length c ∧ (L.length ≤ c ∧ c ≤ 9223372036854775807 ∧ ∀ z ∈ L, -9223372036854775808 ≤ z ∧ z ≤ 9223372036854775807) ∧ (∀ q ∈ [vCells ad (i64s L)], q.holds (fun _ => False) w) := by
  obtain ⟨a, len, cap, rfl⟩ := okWide_slice Tryz.underlying22 hv
  obtain ⟨fuel, hf⟩ := h
  obtain ⟨ad, c, L, hs, hb, hc⟩ := open_i64c Tryz.underlying22 Tryz.underlying3 c3 hf
  refine ⟨ad, c, L, hs, ⟨hb.1, hb.2.1, fun z hz => i64_of_wf (hb.2.2 z hz)⟩, ?_⟩
  intro q hq
  simp only [List.mem_cons, List.not_mem_nil, or_false] at hq
  subst hq
  exact hc
end
end Go.Proofs.YtmambmpohkollaaGreatDoor
