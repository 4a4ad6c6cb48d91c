/- The laws of chapter 40: arguments opened. -/
import Derived.Test.YtmambmpohkollaaGreatDoorLwA
namespace Go.Fw
open Go Go.RowKit Go.Nat9 Go.Proofs Go.ChangeShapes Go.WideShapes Go.ChangeAt
section
variable {H : Type} {P : Program} {enc : TypeId × Value → H} {w : World} {base : Nat} {sp : Nat → Bool} {held : Bool}
theorem open_i64s {ts e : TypeId} {fuel : Nat} {v : Value} {x : DataW H × List MemPlace} (ht : P.underlying ts = some (.slice e)) (he : P.underlying e = some (.int .i64)) (hc : P.cellsOf e = 1)
    (h : DataW.trod enc P w base sp held fuel ts [v] = some x) : ∃ (ad : Option Addr) (c : Nat) (L : List Int), v = .slice ad L.length c ∧ CellsAt (fun _ => False) w ad (i64s L) := by
  rcases open_ints ht he hc h with ⟨hcs, _⟩ | ⟨a, len, cap, zs, hcs, _, hl, _, hlen, _, hcell, hwf⟩
  · simp only [List.cons.injEq, and_true] at hcs
    subst hcs
    exact ⟨none, 0, [], rfl, fun j u hj => by simp [i64s] at hj⟩
  · simp only [List.cons.injEq, and_true] at hcs
    subst hcs
    have hle : len ≤ zs.length := by rw [hlen]; split <;> omega
    have hlt : (zs.take len).length = len := by simp; omega
    refine ⟨some a, cap, zs.take len, by rw [hlt], ?_⟩
    intro j u hj
    have hjl : j < len := by
      have := (List.getElem?_eq_some_iff.1 hj).1
      rw [i64s_length, hlt] at this
      exact this
    have hc0 := hcell j (by omega)
    have hz : zs[j]? = some (zs.getD j 0) := by
      rw [List.getD_eq_getElem?_getD, List.getElem?_eq_getElem (by omega)]; rfl
    have hu : u = .int .i64 (zs.getD j 0) := by
      rw [i64s, List.getElem?_map, List.getElem?_take, if_pos hjl, hz] at hj
      exact (Option.some.inj hj).symm
    obtain ⟨b, o, sp⟩ := a
    cases sp with
    | none => exact ⟨b, o, rfl, fun h => h, by rw [hu]; rwa [add_lit'] at hc0⟩
    | some k =>
      exfalso
      have h0 := hcell 0 (by omega)
      rw [show Addr.add ⟨b, o, some k⟩ 0 = ⟨b, o, some k⟩ from by simp [Addr.add]] at h0
      unfold World.cell? at h0
      split at h0
      · simp at h0
      · cases h0
end
end Go.Fw
namespace Go.Proofs.YtmambmpohkollaaGreatDoor
open Go Go.RowKit Go.Nat9 Go.Fw Go.ChangeShapes Go.WideShapes Go.ChangeAt
theorem c3 : Tryz.prog.cellsOf 3 = 1 := by kernel_rfl
theorem laidOut : laidOutB Tryz.prog = true := by kernel_rfl
theorem own : ownKnob Tryz.prog.godebug = none := by kernel_rfl
theorem i64_of_wf {n : Int} (h : (Lit.int .i64 n).wf = true) : -9223372036854775808 ≤ n ∧ n ≤ 9223372036854775807 := by
  simp only [Lit.wf, Bool.and_eq_true, decide_eq_true_eq, IntKind.min, IntKind.max, IntKind.bits, IntKind.signed] at h
  simp at h
  omega
section
variable {H : Type} {enc : TypeId × Value → H} {w : World} {base : Nat} {sp : Nat → Bool} {held : Bool} {r : Reach} {b0 : Nat} {v : Value} {d : DataW H} {p : List MemPlace}
set_option maxRecDepth 20000 in
theorem open_intsV (hv : Value.okWide Tryz.prog w r b0 22 v) (h : DataW.Trod enc Tryz.prog w base sp held 22 v d p) :
    ∃ (ad : Option Addr) (c : Nat) (L : List Int), v = .slice ad L.length c ∧ (∀ q ∈ [vCells ad (i64s L)], q.holds (fun _ => False) w) := by
  obtain ⟨a, len, cap, rfl⟩ := okWide_slice Tryz.underlying22 hv
  obtain ⟨fuel, hf⟩ := h
  obtain ⟨ad, c, L, hs, hc⟩ := open_i64s Tryz.underlying22 Tryz.underlying3 c3 hf
  refine ⟨ad, c, L, hs, ?_⟩
  intro q hq
  simp only [List.mem_cons, List.not_mem_nil, or_false] at hq
  subst hq
  exact hc
theorem cell_int {fuel : Nat} {c : Value} {x : DataW H × List MemPlace} (h : DataW.trod enc Tryz.prog w base sp held fuel 3 [c] = some x) : ∃ k : Int, c = .int .i64 k ∧ -9223372036854775808 ≤ k ∧ k ≤ 9223372036854775807 := by
  obtain ⟨n, hc, _, hw⟩ := DataW.trod_int Tryz.underlying3 h
  simp only [List.cons.injEq, and_true] at hc
  have := i64_of_wf hw
  exact ⟨n, hc, this.1, this.2⟩
set_option maxRecDepth 20000 in
theorem open_intV (hv : Value.okWide Tryz.prog w r b0 3 v) (h : DataW.Trod enc Tryz.prog w base sp held 3 v d p) : ∃ k : Int, v = .int .i64 k ∧ -9223372036854775808 ≤ k ∧ k ≤ 9223372036854775807 := by
  obtain ⟨n, rfl, _, _, hw⟩ := open_int Tryz.underlying3 hv h
  have := i64_of_wf hw
  exact ⟨n, rfl, this.1, this.2⟩
end
end Go.Proofs.YtmambmpohkollaaGreatDoor
