/- The program logic: fields of elements; spans as cells. -/
import Derived.Test.YtmbgbodkhdfdoaaDoorFrB
import Derived.Test.YtmbgbodkhdfdoaaDoorFrC
namespace Go.Fw
open Go Go.RowKit Go.Nat9

section
variable {P : Program} {Q : Exit → Act → World → Prop} {w0 : Ctx} {σ σ' : List Res} {φ φ' : List (Bool × VP)} {fr : Fr} {ops : Array Oper} {rest : List Oper}
  {d : Nat} {ty : TypeId} {pos : String} {aft : Array Edge}
theorem JL_fieldAddrE {s : TypeId} {x : Operand} {f j off : Nat} {ad : Option Addr} {xs : List Value} (hf : fOf P s f = some off) (hx : Ev fr x (ptrAt ad j)) (hr : Reads w0 σ φ ad xs) (hlt : j < xs.length)
    (k : JL P ops Q w0 σ φ rest (upd fr d (ptrAt ad (j + off)))) : JL P ops Q w0 σ φ (⟨some d, .fieldAddr s x f, ty, pos, aft, none⟩ :: rest) fr := by
  refine JL_pureSt _ (fun w st => ?_) k
  obtain ⟨X, hc⟩ := hr w st
  obtain ⟨b, o, rfl, _, _⟩ := hc j _ (List.getElem?_eq_getElem hlt)
  unfold fOf at hf
  split at hf
  · rename_i fields hu
    split at hf
    · rename_i fd hfd
      split at hf
      · rename_i i hi
        split at hf
        · cases hf
        · rename_i hne
          simp at hf
          subst hf
          simp [execOp, hx.eq, Instr.fieldAt, run_underlying hu, hfd, Instr.sureAddr, fieldPlace, sizeOf, typeInfo, hi, hne, ptrAt, add_lit', Nat.add_assoc]
      · cases hf
    · cases hf
  · cases hf
end

/-- A span's cells. -/
structure SpV where
  s : Bool
  a : Option Addr
  n : Nat
  c : Nat
  b : Option Addr
  m : Nat
  e : Nat
  s' : Bool
  a' : Option Addr
  n' : Nat
  c' : Nat
  b' : Option Addr
  m' : Nat
  e' : Nat
def SpV.cells (x : SpV) : List Value := [.bool x.s, .slice x.a x.n x.c, .slice x.b x.m x.e, .bool x.s', .slice x.a' x.n' x.c', .slice x.b' x.m' x.e']
def SpV.nil : SpV := ⟨false, none, 0, 0, none, 0, 0, false, none, 0, 0, none, 0, 0⟩
def spCells : List SpV → List Value
  | [] => []
  | x :: l => x.cells ++ spCells l
theorem spCells_len : ∀ l : List SpV, (spCells l).length = 6 * l.length
  | [] => rfl
  | x :: l => by rw [spCells, List.length_append, spCells_len l]; simp [SpV.cells]; omega
theorem spCells_get : ∀ (l : List SpV) (k j : Nat), k < l.length → j < 6 → (spCells l)[k * 6 + j]? = (l.getD k SpV.nil).cells[j]?
  | x :: l, 0, j, _, hj => by
    rw [spCells, Nat.zero_mul, Nat.zero_add, List.getElem?_append_left (by simp [SpV.cells]; omega)]; rfl
  | x :: l, k + 1, j, hk, hj => by
    rw [spCells, show (k + 1) * 6 + j = 6 + (k * 6 + j) from by omega, List.getElem?_append_right (by simp [SpV.cells])]
    rw [show 6 + (k * 6 + j) - x.cells.length = k * 6 + j from by simp [SpV.cells]]
    rw [spCells_get l k j (by simpa using hk) hj]
    rfl
def SpV.ok (x : SpV) : Prop := x.n ≤ 4 ∧ x.m ≤ 4 ∧ x.n' ≤ 4 ∧ x.m' ≤ 4
theorem spGet1 {l : List SpV} {k : Nat} (h : k < l.length) : (spCells l)[k * 6 + 0 + 1 + 0]? = some (.slice (l.getD k SpV.nil).a (l.getD k SpV.nil).n (l.getD k SpV.nil).c) := spCells_get l k 1 h (by omega)
theorem spGet2 {l : List SpV} {k : Nat} (h : k < l.length) : (spCells l)[k * 6 + 0 + 2 + 0]? = some (.slice (l.getD k SpV.nil).b (l.getD k SpV.nil).m (l.getD k SpV.nil).e) := spCells_get l k 2 h (by omega)
theorem spGet3 {l : List SpV} {k : Nat} (h : k < l.length) : (spCells l)[k * 6 + 3 + 1 + 0]? = some (.slice (l.getD k SpV.nil).a' (l.getD k SpV.nil).n' (l.getD k SpV.nil).c') := spCells_get l k 4 h (by omega)
theorem spGet4 {l : List SpV} {k : Nat} (h : k < l.length) : (spCells l)[k * 6 + 3 + 2 + 0]? = some (.slice (l.getD k SpV.nil).b' (l.getD k SpV.nil).m' (l.getD k SpV.nil).e') := spCells_get l k 5 h (by omega)
end Go.Fw
