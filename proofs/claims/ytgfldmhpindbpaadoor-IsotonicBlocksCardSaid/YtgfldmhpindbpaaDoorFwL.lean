/- The program logic: fields of elements; spans as cells. -/
import Derived.Test.YtgfldmhpindbpaaDoorFrB
import Derived.Test.YtgfldmhpindbpaaDoorFrD
namespace Go.Fw
open Go Go.RowKit Go.Nat9

section
variable {P : Program} {Q : Exit → Act → World → Prop} {w0 : Ctx} {σ σ' : List Res} {φ φ' : List (Bool × VP)} {fr : Fr} {ops : Array Oper} {rest : List Oper}
  {d : Nat} {ty : TypeId} {pos : String} {aft : Array Edge}
theorem JL_fieldAddrE {s : TypeId} {x : Operand} {f j off : Nat} {ad : Option Addr} {xs : List Value} (hf : fOf P s f = some off) (hx : Ev fr x (ptrAt ad j)) (hr : Reads w0 σ φ ad xs) (hlt : j < xs.length)
    (k : JL P ops Q w0 σ φ rest (upd fr d (ptrAt ad (j + off)))) : JL P ops Q w0 σ φ (⟨some d, .fieldAddr s x f, ty, pos, aft, none⟩ :: rest) fr := by
  refine JL_pureSt _ (fun w st => ?_) k
  obtain ⟨X, hc⟩ := hr w st
  obtain ⟨b, o, rfl, _, _⟩ := hc j _ (List.getElem?_eq_getElem hlt)
  unfold fOf at hf
  split at hf
  · rename_i fields hu
    split at hf
    · rename_i fd hfd
      split at hf
      · rename_i i hi
        split at hf
        · cases hf
        · rename_i hne
          simp at hf
          subst hf
          simp [execOp, hx.eq, Instr.fieldAt, run_underlying hu, hfd, Instr.sureAddr, fieldPlace, sizeOf, typeInfo, hi, hne, ptrAt, add_lit', Nat.add_assoc]
      · cases hf
    · cases hf
  · cases hf
end

/-- A span's cells. -/
structure SpV where
  s : Bool
  a : Option Addr
  n : Nat
  c : Nat
  b : Option Addr
  m : Nat
  e : Nat
  s' : Bool
  a' : Option Addr
  n' : Nat
  c' : Nat
  b' : Option Addr
  m' : Nat
  e' : Nat
def SpV.cells (x : SpV) : List Value := [.bool x.s, .slice x.a x.n x.c, .slice x.b x.m x.e, .bool x.s', .slice x.a' x.n' x.c', .slice x.b' x.m' x.e']
def SpV.nil : SpV := ⟨false, none, 0, 0, none, 0, 0, false, none, 0, 0, none, 0, 0⟩
def spCells : List SpV → List Value
  | [] => []
  | x :: l => x.cells ++ spCells l
theorem spCells_len : ∀ l : List SpV, (spCells l).length = 6 * l.length
  | [] => rfl
  | x :: l => by rw [spCells, List.length_append, spCells_len l]; simp [SpV.cells]; omega
theorem spCells_get : ∀ (l : List SpV) (k j : Nat), k < l.length → j < 6 → (spCells l)[k * 6 + j]? = (l.getD k SpV.nil).cells[j]?
  | x :: l, 0, j, _, hj => by
    rw [spCells, Nat.zero_mul, Nat.zero_add, List.getElem?_append_left (by simp [SpV.cells]; omega)]; rfl
  | x :: l, k + 1, j, hk, hj => by
    rw [spCells, show (k + 1) * 6 + j = 6 + (k * 6 + j) from by omega, List.getElem?_append_right (by simp [SpV.cells])]
    rw [show 6 + (k * 6 + j) - x.cells.length = k * 6 + j from by simp [SpV.cells]]
    rw [spCells_get l k j (by simpa using hk) hj]
    rfl
def SpV.ok (x : SpV) : Prop := x.n ≤ 4 ∧ x.m ≤ 4 ∧ x.n' ≤ 4 ∧ x.m' ≤ 4
theorem spGet1 {l : List SpV} {k : Nat} (h : k < l.length) : (spCells l)[k * 6 + 0 + 1 + 0]? = some (.slice (l.getD k SpV.nil).a (l.getD k SpV.nil).n (l.getD k SpV.nil).c) := spCells_get l k 1 h (by omega)
theorem spGet2 {l : List SpV} {k : Nat} (h : k < l.length) : (spCells l)[k * 6 + 0 + 2 + 0]? = some (.slice (l.getD k SpV.nil).b (l.getD k SpV.nil).m (l.getD k SpV.nil).e) := spCells_get l k 2 h (by omega)
theorem spGet3 {l : List SpV} {k : Nat} (h : k < l.length) : (spCells l)[k * 6 + 3 + 1 + 0]? = some (.slice (l.getD k SpV.nil).a' (l.getD k SpV.nil).n' (l.getD k SpV.nil).c') := spCells_get l k 4 h (by omega)
theorem spGet4 {l : List SpV} {k : Nat} (h : k < l.length) : (spCells l)[k * 6 + 3 + 2 + 0]? = some (.slice (l.getD k SpV.nil).b' (l.getD k SpV.nil).m' (l.getD k SpV.nil).e') := spCells_get l k 5 h (by omega)
end Go.Fw

/-! The program logic: strings; a state that begins anew. -/
namespace Go.Fw
open Go Go.RowKit Go.Nat9

section
variable {P : Program} {Q : Exit → Act → World → Prop} {w0 : Ctx} {σ σ' : List Res} {φ φ' : List (Bool × VP)} {fr : Fr} {ops : Array Oper} {rest : List Oper}
  {d : Nat} {ty : TypeId} {pos : String} {aft : Array Edge}
theorem JL_eqlS {t t' : TypeId} {x y : Operand} {a b : ByteArray} (hx : Ev fr x (.string a)) (hy : Ev fr y (.string b)) (n : JL P ops Q w0 σ φ rest (upd fr d (.bool (a.toList == b.toList)))) : JL P ops Q w0 σ φ (⟨some d, .binOp .eql t x y t', ty, pos, aft, none⟩ :: rest) fr :=
  JL_pure _ (fun w => by
    simp only [execOp, hx.eq, hy.eq, eqGuard_at_string, binOp_string_eql, Sem.run_bind, Sem.run_pure, Result.andThen_ok]) n
theorem JL_neqS {t t' : TypeId} {x y : Operand} {a b : ByteArray} (hx : Ev fr x (.string a)) (hy : Ev fr y (.string b)) (n : JL P ops Q w0 σ φ rest (upd fr d (.bool (!(a.toList == b.toList))))) : JL P ops Q w0 σ φ (⟨some d, .binOp .neq t x y t', ty, pos, aft, none⟩ :: rest) fr :=
  JL_pure _ (fun w => by
    simp only [execOp, hx.eq, hy.eq, eqGuard_at_string, binOp_string_neq, Sem.run_bind, Sem.run_pure, Result.andThen_ok]) n
theorem JL_addS {t t' : TypeId} {x y : Operand} {a b : ByteArray} (hx : Ev fr x (.string a)) (hy : Ev fr y (.string b)) (hlen : a.size + b.size ≤ 9223372036854775807) (n : JL P ops Q w0 σ φ rest (upd fr d (.string (a ++ b)))) : JL P ops Q w0 σ φ (⟨some d, .binOp .add t x y t', ty, pos, aft, none⟩ :: rest) fr :=
  JL_pure _ (fun w => by
    simp only [execOp, hx.eq, hy.eq, eqGuard_at_string, binOp_string_add, run_string_add_sum (P := P) (w := w) a b hlen, Sem.run_bind, Sem.run_pure, Result.andThen_ok]) n
/-- From here on the world is looked at anew: what was own stays below; what lies below keeps being there. -/
theorem JC_rebase {c : Code} (k : ∀ w1 : Ctx, Below w0.w.heap.size w0.w w1.w → w0.w.heap.size ≤ w1.w.heap.size → (∀ p ∈ φ, ∀ σ2 φ2 w, St w1 w σ2 φ2 → p.2.holds (fun _ => False) w) → JC P c Q w1 [] [] fr) : JC P c Q w0 σ φ fr := by
  intro w s
  refine k ⟨w, fun _ => False, fun _ h => h.elim⟩ s.base s.base.size ?_ w ⟨Below.refl _ _, fun r hr => (by cases hr), fun r hr => (by cases hr), List.Pairwise.nil, fun p hp => (by cases hp)⟩
  intro p hp σ2 φ2 w' s'
  refine p.2.mono _ _ w w' (s.views p hp) s'.base.size (fun k hk _ => ?_) (fun _ _ h => h.elim)
  exact s'.base.block k hk
theorem JE_retB {w1 : Ctx} {fn : Func} {Post : Value → List VP → Prop} {rs : List ResultVar} {vs : List Value} (hb : Below w0.w.heap.size w0.w w1.w) (hle : w0.w.heap.size ≤ w1.w.heap.size) (hr : fn.results = rs.toArray) (hv : RVs P σ fr rs vs) (hP : Post (retOf vs) []) :
    JE (bodyPost P fn (PostY w0 Post)) .ret w1 σ φ fr := by
  intro w s
  refine bodyPost_of (run_results hr hv s) ⟨_, [], rfl, hP, ?_, fun p hp => (by cases hp)⟩
  exact hb.trans (s.base.mono hle)
end
end Go.Fw

/-! The program logic: elements of arrays; contracts whose answer is known. -/
namespace Go.Fw
open Go Go.RowKit Go.Nat9

def arOf (P : Program) (t : TypeId) : Option (Nat × Nat) :=
  match P.underlying t with
  | some (.array len e) => match P.info? e with
    | some i => some (len, i.size)
    | none => none
  | _ => none
section
variable {P : Program} {Q : Exit → Act → World → Prop} {w0 : Ctx} {σ σ' : List Res} {φ φ' : List (Bool × VP)} {fr : Fr} {ops : Array Oper} {rest : List Oper}
  {d : Nat} {ty : TypeId} {pos : String} {aft : Array Edge}
theorem JL_idxArr {t : TypeId} {x y : Operand} {len sz b o : Nat} {kk : IntKind} {a : Int} (k : Nat) (hs : arOf P t = some (len, sz)) (hx : Ev fr x (.pointer (some ⟨b, o, none⟩))) (hy : Ev fr y (.int kk a)) (ha : a = (k : Int)) (hk : k < len)
    (n : JL P ops Q w0 σ φ rest (upd fr d (.pointer (some ⟨b, o + k * sz, none⟩)))) : JL P ops Q w0 σ φ (⟨some d, .indexAddr t x y, ty, pos, aft, none⟩ :: rest) fr := by
  refine JL_pure _ (fun w => ?_) n
  subst ha
  unfold arOf at hs
  split at hs
  · rename_i l e hu
    split at hs
    · rename_i i hi
      simp only [Option.some.injEq, Prod.mk.injEq] at hs
      obtain ⟨rfl, rfl⟩ := hs
      simp [execOp, hx.eq, hy.eq, Instr.indexAt, run_underlying hu, asIntOf, sizeOf, typeInfo, hi, hk, Instr.sureAddr, add_lit']
    · cases hs
  · cases hs
theorem JL_guard_un {op : Op} {j t : Nat} {want : Bool} (hj : (ops[j]?).bind (·.dst) = some t) (hb : Lk fr t undef)
    (k : JL P ops Q w0 σ φ rest (upd fr d undef)) : JL P ops Q w0 σ φ (⟨some d, op, ty, pos, aft, some (j, want)⟩ :: rest) fr := by
  intro w s
  have h := k w s
  have hw : Region.wanted (⟨some d, op, ty, pos, aft, some (j, want)⟩ : Oper) (yielded ops (act fr).tmps) = false := by
    have hl := look_getD fr t
    rw [hb.eq] at hl
    simp only [Region.wanted, yielded, hj, Option.bind_some]
    rw [Array.getD_eq_getD_getElem?] at hl
    cases h1 : (act fr).tmps[t]? with
    | none => cases want <;> rfl
    | some u => 
      rw [h1] at hl
      obtain rfl : u = undef := hl
      cases want <;> rfl
  unfold wpList
  rw [if_neg (by rw [hw]; simp)]
  rw [act_put]
  exact h
end
theorem con_true {P : Program} {f : FuncId} {vs : List Value} {φin : List VP} {b : Bool} (h : b = true) (c : ConF P f vs φin (fun v φo => v = .bool b ∧ φo = [])) : ConF P f vs φin (fun v φo => v = .bool true ∧ φo = []) := h ▸ c
theorem con_false {P : Program} {f : FuncId} {vs : List Value} {φin : List VP} {b : Bool} (h : b = false) (c : ConF P f vs φin (fun v φo => v = .bool b ∧ φo = [])) : ConF P f vs φin (fun v φo => v = .bool false ∧ φo = []) := h ▸ c
end Go.Fw
