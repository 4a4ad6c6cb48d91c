/- More rules: numbers behind own numbers; parts of viewed numbers. -/
import Derived.Test.YtgfldmhpindbpaaDoorFwO
namespace Go.Fw
open Go Go.RowKit Go.Nat9

section
variable {P : Program} {Q : Exit → Act → World → Prop} {w0 : Ctx} {σ : List Res} {φ : List (Bool × VP)} {fr : Fr} {ops : Array Oper} {rest : List Oper} {d : Nat} {ty : TypeId} {pos : String} {aft : Array Edge}
theorem i64s_append (L M : List Int) : i64s L ++ i64s M = i64s (L ++ M) := by unfold i64s; rw [List.map_append]
/-- Numbers behind own numbers. -/
theorem JL_appendIV {t e : TypeId} {by' : Nat} {z : Value} {x y : Operand} {ad ad2 : Option Addr} {n cap m c : Nat} {L M : List Int} (i : Nat) (hs : slOf P t = some (e, 1, by', [z]))
    (hx : Ev fr x (.slice ad n cap)) (hy : Ev fr y (.slice ad2 m c)) (hσ : Nth σ i (osl ad n cap e 1 (i64s L))) (hr : Reads w0 σ φ ad2 (i64s M)) (hl : M.length = m)
    (h63 : n + m ≤ 9223372036854775807) (hbytes : (n + m) * by' ≤ 140737488355328)
    (k : ∀ ad' cap', n + m ≤ cap' ∧ cap' ≤ 9223372036854775807 → JL P ops Q w0 (updL σ i (osl ad' (n + m) cap' e 1 (i64s (L ++ M)))) φ rest (upd fr d (.slice ad' (n + m) cap'))) :
    JL P ops Q w0 σ φ (⟨some d, .call { callee := .builtin .append, args := #[x, y], argTypes := #[t, t] }, ty, pos, aft, none⟩ :: rest) fr := by
  refine JL_append i hs rfl (by decide) hx hy hσ (by rw [i64s_length, hl, Nat.mul_one]) hr ?_ h63 hbytes ?_
  · intro v hv
    obtain ⟨a, _, rfl⟩ := List.mem_map.1 hv
    rfl
  · intro ad' cap' hc
    rw [i64s_append]
    exact k ad' cap' hc
theorem viewSubI {f : Bool} {ad : Option Addr} {L : List Int} (h : (f, vCells ad (i64s L)) ∈ φ) (m l hh : Nat) (hm : hh ≤ m) (w : World) (s : St w0 w σ φ) : (vCells (subAd ad m l 1) (i64s ((L.take hh).drop l))).holds (Xof w0 σ f) w := by
  have := CellsAt.sub (s.views _ h) m l hh 1 hm
  rw [Nat.mul_one, Nat.mul_one, i64s_take, i64s_drop] at this
  exact this
theorem JC_viewSubI {c : Code} {f : Bool} {ad : Option Addr} {L : List Int} (m l hh : Nat) (h : (f, vCells ad (i64s L)) ∈ φ) (hm : hh ≤ m) (k : JC P c Q w0 σ ((f, vCells (subAd ad m l 1) (i64s ((L.take hh).drop l))) :: φ) fr) : JC P c Q w0 σ φ fr :=
  JC_addView (fun w s => viewSubI h m l hh hm w s) k
theorem JL_viewSubI {lo : List Oper} {f : Bool} {ad : Option Addr} {L : List Int} (m l hh : Nat) (h : (f, vCells ad (i64s L)) ∈ φ) (hm : hh ≤ m) (k : JL P ops Q w0 σ ((f, vCells (subAd ad m l 1) (i64s ((L.take hh).drop l))) :: φ) lo fr) : JL P ops Q w0 σ φ lo fr :=
  JL_addView (fun w s => viewSubI h m l hh hm w s) k
end
end Go.Fw
