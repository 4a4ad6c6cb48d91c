/- A slice of one byte as a string. -/
import Derived.Test.YtmambmpohkollaaGreatDoorFwC
import Derived.Laws.BytesString
namespace Go.Fw
open Go Go.RowKit
section
variable {P : Program} {Q : Exit → Act → World → Prop} {w0 : Ctx} {σ : List Res} {φ : List (Bool × VP)} {fr : Fr} {ops : Array Oper} {rest : List Oper} {d : Nat} {ty : TypeId} {pos : String} {aft : Array Edge}
theorem JL_toStr1 {x : Operand} {t t' e : TypeId} {ad : Option Addr} {c : Nat} {n : Int} (hs : P.underlying t = some (.slice e)) (he : P.underlying e = some (.int .u8)) (hd : P.underlying t' = some .string) (hx : Ev fr x (.slice ad 1 c)) (hr : Reads w0 σ φ ad [.int .u8 n])
    (k : JL P ops Q w0 σ φ rest (upd fr d (.string ⟨#[UInt8.ofNat n.toNat]⟩))) : JL P ops Q w0 σ φ (⟨some d, .convert t t' x, ty, pos, aft, none⟩ :: rest) fr := by
  refine JL_pureSt _ (fun w s => ?_) k
  obtain ⟨X, hc⟩ := hr w s
  obtain ⟨b, o, rfl, _, _⟩ := hc 0 _ rfl
  have hl : (loadCells ⟨b, o, none⟩ 1).run P w = .ok ([n].map (Value.int .u8)).toArray w := run_loadCells_list (P := P) (w := w) ⟨b, o, none⟩ [.int .u8 n] fun j v hj => by
    obtain ⟨b', o', he', _, hc'⟩ := hc j v hj
    simp at he'
    obtain ⟨rfl, rfl⟩ := he'
    rw [add_lit']; exact hc'
  simp only [execOp, hx.eq, Sem.run_bind, run_convert_bytes_string w _ _ e _ _ _ hs he hd, run_bytesToString w _ 1 c [n] hl, Result.andThen_ok]
  rfl
end
end Go.Fw
