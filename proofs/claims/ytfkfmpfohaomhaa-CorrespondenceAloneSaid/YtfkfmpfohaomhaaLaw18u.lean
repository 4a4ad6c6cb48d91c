/- The laws of chapter 18: lists of small numbers, and small numbers, opened. -/
import Derived.Test.YtfkfmpfohaomhaaLaw18
import Derived.Test.YtfkfmpfohaomhaaCoM
namespace Go.Fw
open Go Go.RowKit Go.Nat9 Go.Proofs Go.ChangeShapes Go.WideShapes Go.ChangeAt
theorem u8_nat {n : Int} (h : (Lit.int .u8 n).wf = true) : ∃ k : Nat, n = (k : Int) ∧ k < 256 := by
  simp only [Lit.wf, Bool.and_eq_true, IntKind.min, IntKind.max, IntKind.bits, IntKind.signed] at h
  simp at h
  exact ⟨n.toNat, by omega, by omega⟩
section
variable {H : Type} {P : Program} {enc : TypeId × Value → H} {w : World} {base : Nat} {sp : Nat → Bool} {held : Bool}
theorem open_u8c {ts e : TypeId} {fuel : Nat} {v : Value} {x : DataW H × List MemPlace} (ht : P.underlying ts = some (.slice e)) (he : P.underlying e = some (.int .u8)) (hc : P.cellsOf e = 1)
    (h : DataW.trod enc P w base sp held fuel ts [v] = some x) : ∃ (ad : Option Addr) (c : Nat) (L : List Nat), v = .slice ad L.length c ∧ (∀ z ∈ L, z < 256) ∧ CellsAt (fun _ => False) w ad (u8c L) := by
  rcases open_ints ht he hc h with ⟨hcs, _⟩ | ⟨a, len, cap, zs, hcs, _, hl, hm, hlen, _, hcell, hwf⟩
  · simp only [List.cons.injEq, and_true] at hcs
    subst hcs
    exact ⟨none, 0, [], rfl, (fun z hz => by cases hz), fun j u hj => by simp [u8c] at hj⟩
  · simp only [List.cons.injEq, and_true] at hcs
    subst hcs
    have hle : len ≤ zs.length := by rw [hlen]; split <;> omega
    have hlt : ((zs.take len).map Int.toNat).length = len := by simp; omega
    refine ⟨some a, cap, (zs.take len).map Int.toNat, by rw [hlt], fun z hz => ?_, ?_⟩
    · obtain ⟨y, hy, rfl⟩ := List.mem_map.1 hz
      obtain ⟨k, rfl, hk⟩ := u8_nat (hwf y (List.mem_of_mem_take hy))
      simpa using hk
    intro j u hj
    have hjl : j < len := by
      have := (List.getElem?_eq_some_iff.1 hj).1
      rw [u8c_len, hlt] at this
      exact this
    have hc0 := hcell j (by omega)
    have hz : zs[j]? = some (zs.getD j 0) := by
      rw [List.getD_eq_getElem?_getD, List.getElem?_eq_getElem (by omega)]; rfl
    have hu : u = .int .u8 (zs.getD j 0) := by
      rw [u8c, List.getElem?_map, List.getElem?_map, List.getElem?_take, if_pos hjl, hz] at hj
      obtain ⟨k, hk, _⟩ := u8_nat (hwf (zs.getD j 0) (List.mem_of_getElem? hz))
      rw [hk] at hj ⊢
      exact (Option.some.inj hj).symm
    obtain ⟨b, o, sp⟩ := a
    cases sp with
    | none => exact ⟨b, o, rfl, fun h => h, by rw [hu]; rwa [add_lit'] at hc0⟩
    | some k =>
      exfalso
      have h0 := hcell 0 (by omega)
      rw [show Addr.add ⟨b, o, some k⟩ 0 = ⟨b, o, some k⟩ from by simp [Addr.add]] at h0
      unfold World.cell? at h0
      split at h0
      · simp at h0
      · cases h0
end
end Go.Fw
namespace Go.Proofs.Ytfkfmpfohaomhaa
open Go Go.RowKit Go.Nat9 Go.Fw Go.ChangeShapes Go.WideShapes Go.ChangeAt
theorem c5 : Try.prog.cellsOf 5 = 1 := by kernel_rfl
section
variable {H : Type} {enc : TypeId × Value → H} {w : World} {base : Nat} {sp : Nat → Bool} {held : Bool} {r : Reach} {b0 : Nat} {v : Value} {d : DataW H} {p : List MemPlace}
set_option maxRecDepth 20000 in
theorem open_u8sV (hv : Value.okWide Try.prog w r b0 32 v) (h : DataW.Trod enc Try.prog w base sp held 32 v d p) :
    ∃ (ad : Option Addr) (c : Nat) (L : List Nat), v = .slice ad L.length c ∧ (∀ x ∈ L, x < 256) ∧ (∀ q ∈ [vCells ad (u8c L)], q.holds (fun _ => False) w) := by
  obtain ⟨a, len, cap, rfl⟩ := okWide_slice Try.underlying32 hv
  obtain ⟨fuel, hf⟩ := h
  obtain ⟨ad, c, L, hs, hb, hc⟩ := open_u8c Try.underlying32 Try.underlying5 c5 hf
  refine ⟨ad, c, L, hs, hb, ?_⟩
  intro q hq
  simp only [List.mem_cons, List.not_mem_nil, or_false] at hq
  subst hq
  exact hc
set_option maxRecDepth 20000 in
theorem open_u8 (hv : Value.okWide Try.prog w r b0 5 v) (h : DataW.Trod enc Try.prog w base sp held 5 v d p) : ∃ k : Nat, v = .int .u8 (k : Nat) ∧ k < 256 := by
  obtain ⟨n, rfl, _, _, hw⟩ := open_int Try.underlying5 hv h
  obtain ⟨k, rfl, hk⟩ := u8_nat hw
  exact ⟨k, rfl, hk⟩
end
end Go.Proofs.Ytfkfmpfohaomhaa
