/- The program logic: strings; a state that begins anew. -/
import Derived.Test.YtmbgbodkhdfdoaaDoorFwL
namespace Go.Fw
open Go Go.RowKit Go.Nat9

section
variable {P : Program} {Q : Exit → Act → World → Prop} {w0 : Ctx} {σ σ' : List Res} {φ φ' : List (Bool × VP)} {fr : Fr} {ops : Array Oper} {rest : List Oper}
  {d : Nat} {ty : TypeId} {pos : String} {aft : Array Edge}
theorem JL_eqlS {t t' : TypeId} {x y : Operand} {a b : ByteArray} (hx : Ev fr x (.string a)) (hy : Ev fr y (.string b)) (n : JL P ops Q w0 σ φ rest (upd fr d (.bool (a.toList == b.toList)))) : JL P ops Q w0 σ φ (⟨some d, .binOp .eql t x y t', ty, pos, aft, none⟩ :: rest) fr :=
  JL_pure _ (fun w => by
    simp only [execOp, hx.eq, hy.eq, eqGuard_at_string, binOp_string_eql, Sem.run_bind, Sem.run_pure, Result.andThen_ok]) n
theorem JL_neqS {t t' : TypeId} {x y : Operand} {a b : ByteArray} (hx : Ev fr x (.string a)) (hy : Ev fr y (.string b)) (n : JL P ops Q w0 σ φ rest (upd fr d (.bool (!(a.toList == b.toList))))) : JL P ops Q w0 σ φ (⟨some d, .binOp .neq t x y t', ty, pos, aft, none⟩ :: rest) fr :=
  JL_pure _ (fun w => by
    simp only [execOp, hx.eq, hy.eq, eqGuard_at_string, binOp_string_neq, Sem.run_bind, Sem.run_pure, Result.andThen_ok]) n
theorem JL_addS {t t' : TypeId} {x y : Operand} {a b : ByteArray} (hx : Ev fr x (.string a)) (hy : Ev fr y (.string b)) (hlen : a.size + b.size ≤ 9223372036854775807) (n : JL P ops Q w0 σ φ rest (upd fr d (.string (a ++ b)))) : JL P ops Q w0 σ φ (⟨some d, .binOp .add t x y t', ty, pos, aft, none⟩ :: rest) fr :=
  JL_pure _ (fun w => by
    simp only [execOp, hx.eq, hy.eq, eqGuard_at_string, binOp_string_add, run_string_add_sum (P := P) (w := w) a b hlen, Sem.run_bind, Sem.run_pure, Result.andThen_ok]) n
/-- From here on the world is looked at anew: what was own stays below; what lies below keeps being there. -/
theorem JC_rebase {c : Code} (k : ∀ w1 : Ctx, Below w0.w.heap.size w0.w w1.w → w0.w.heap.size ≤ w1.w.heap.size → (∀ p ∈ φ, ∀ σ2 φ2 w, St w1 w σ2 φ2 → p.2.holds (fun _ => False) w) → JC P c Q w1 [] [] fr) : JC P c Q w0 σ φ fr := by
  intro w s
  refine k ⟨w, fun _ => False, fun _ h => h.elim⟩ s.base s.base.size ?_ w ⟨Below.refl _ _, fun r hr => (by cases hr), fun r hr => (by cases hr), List.Pairwise.nil, fun p hp => (by cases hp)⟩
  intro p hp σ2 φ2 w' s'
  refine p.2.mono _ _ w w' (s.views p hp) s'.base.size (fun k hk _ => ?_) (fun _ _ h => h.elim)
  exact s'.base.block k hk
theorem JE_retB {w1 : Ctx} {fn : Func} {Post : Value → List VP → Prop} {rs : List ResultVar} {vs : List Value} (hb : Below w0.w.heap.size w0.w w1.w) (hle : w0.w.heap.size ≤ w1.w.heap.size) (hr : fn.results = rs.toArray) (hv : RVs P σ fr rs vs) (hP : Post (retOf vs) []) :
    JE (bodyPost P fn (PostY w0 Post)) .ret w1 σ φ fr := by
  intro w s
  refine bodyPost_of (run_results hr hv s) ⟨_, [], rfl, hP, ?_, fun p hp => (by cases hp)⟩
  exact hb.trans (s.base.mono hle)
end
end Go.Fw
