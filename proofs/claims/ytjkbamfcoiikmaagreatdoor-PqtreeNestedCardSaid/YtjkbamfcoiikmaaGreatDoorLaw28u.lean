/- Chapter 28: small numbers, opened. -/
import Derived.Test.YtjkbamfcoiikmaaGreatDoorLaw40
namespace Go.Fw
open Go Go.RowKit Go.Nat9 Go.Proofs Go.ChangeShapes Go.WideShapes Go.ChangeAt
theorem u8_nat {n : Int} (h : (Lit.int .u8 n).wf = true) : ∃ k : Nat, n = (k : Int) ∧ k < 256 := by
  simp only [Lit.wf, Bool.and_eq_true, IntKind.min, IntKind.max, IntKind.bits, IntKind.signed] at h
  simp at h
  exact ⟨n.toNat, by omega, by omega⟩
end Go.Fw
namespace Go.Proofs.YtjkbamfcoiikmaaGreatDoor
open Go Go.RowKit Go.Nat9 Go.Fw Go.ChangeShapes Go.WideShapes Go.ChangeAt
section
variable {H : Type} {enc : TypeId × Value → H} {w : World} {base : Nat} {sp : Nat → Bool} {held : Bool} {r : Reach} {b0 : Nat} {v : Value} {d : DataW H} {p : List MemPlace}
set_option maxRecDepth 20000 in
theorem open_u8 (hv : Value.okWide Tryz.prog w r b0 5 v) (h : DataW.Trod enc Tryz.prog w base sp held 5 v d p) : ∃ k : Nat, v = .int .u8 (k : Nat) ∧ k < 256 := by
  obtain ⟨n, rfl, _, _, hw⟩ := open_int Tryz.underlying5 hv h
  obtain ⟨k, rfl, hk⟩ := u8_nat hw
  exact ⟨k, rfl, hk⟩
end
end Go.Proofs.YtjkbamfcoiikmaaGreatDoor
