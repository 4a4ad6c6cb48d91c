/- Chapter 18: '==' of entries and of specimens. -/
import Derived.Test.YtfkfmpfohaomhaaGreatCoE
import Derived.Test.YtfkfmpfohaomhaaGreatCoBF
namespace Go.Fw
open Go Go.RowKit
def EqG (P : Program) (T : TypeId) {α : Type} [DecidableEq α] (ek : α → Value) : Prop := ∀ (x y : Operand) (p q : α) (w : World),
  ((eqGuard .eql T x y (ek p) (ek q)).run P w = .ok () w ∧ (binOp .eql T (ek p) (ek q)).run P w = .ok (.bool (decide (p = q))) w) ∧
  ((eqGuard .neq T x y (ek p) (ek q)).run P w = .ok () w ∧ (binOp .neq T (ek p) (ek q)).run P w = .ok (.bool (decide (p ≠ q))) w)
section
variable {P : Program} {Q : Exit → Act → World → Prop} {w0 : Ctx} {σ : List Res} {φ : List (Bool × VP)} {fr : Fr} {ops : Array Oper} {rest : List Oper}
  {d : Nat} {ty : TypeId} {pos : String} {aft : Array Edge} {α : Type} [DecidableEq α] {ek : α → Value}
theorem JL_eqlG {t t' : TypeId} {x y : Operand} {p q : α} (hE : EqG P t ek) (hx : Ev fr x (ek p)) (hy : Ev fr y (ek q)) (n : JL P ops Q w0 σ φ rest (upd fr d (.bool (decide (p = q))))) : JL P ops Q w0 σ φ (⟨some d, .binOp .eql t x y t', ty, pos, aft, none⟩ :: rest) fr :=
  JL_pure _ (fun w => by
    simp only [execOp, hx.eq, hy.eq, Sem.run_bind, (hE x y p q w).1.1, (hE x y p q w).1.2, Result.andThen_ok, Sem.run_pure]) n
theorem JL_neqG {t t' : TypeId} {x y : Operand} {p q : α} (hE : EqG P t ek) (hx : Ev fr x (ek p)) (hy : Ev fr y (ek q)) (n : JL P ops Q w0 σ φ rest (upd fr d (.bool (decide (p ≠ q))))) : JL P ops Q w0 σ φ (⟨some d, .binOp .neq t x y t', ty, pos, aft, none⟩ :: rest) fr :=
  JL_pure _ (fun w => by
    simp only [execOp, hx.eq, hy.eq, Sem.run_bind, (hE x y p q w).2.1, (hE x y p q w).2.2, Result.andThen_ok, Sem.run_pure]) n
end
end Go.Fw
namespace Go.Fw.K
open Go Go.RowKit Go.Proofs Go.Fw
theorem eqEntry : EqP Tryz.prog 44 := by
  intro x y p q w
  have u3 := Tryz.underlying3
  have a3 := Tryz.isAgg3
  have z3 := Tryz.sizeOf3
  have hS : Tryz.prog.underlying 44 = some (.struct (Tryz.prog.fieldsOf 44)) := by kernel_rfl
  have hp : Tryz.prog.stoodInHeld 44 = false := by kernel_rfl
  have hm : Tryz.prog.eqGuardType Tryz.prog.depth 44 = false := by kernel_rfl
  obtain ⟨a, b⟩ := p
  obtain ⟨c, d⟩ := q
  refine ⟨⟨run_eqGuard_agg w .eql _ x y _ _ hm, ?_⟩, run_eqGuard_agg w .neq _ x y _ _ hm, ?_⟩
  · rw [run_eql_struct, show (10000 : Nat) = 9999 + 1 from rfl, run_equalIn_agg w 9999 44 _ _ hS hp]
    simp only [Program.fieldsOf, Tryz.underlying44]
    go_simp
    by_cases h1 : a = c <;> by_cases h2 : b = d <;> simp [h1, h2]
  · rw [run_neq_struct, show (10000 : Nat) = 9999 + 1 from rfl, run_equalIn_agg w 9999 44 _ _ hS hp]
    simp only [Program.fieldsOf, Tryz.underlying44]
    go_simp
    by_cases h1 : a = c <;> by_cases h2 : b = d <;> simp [h1, h2]
theorem eqSpec : EqG Tryz.prog 53 sv := by
  intro x y p q w
  have u3 := Tryz.underlying3
  have a3 := Tryz.isAgg3
  have z3 := Tryz.sizeOf3
  have hS : Tryz.prog.underlying 53 = some (.struct (Tryz.prog.fieldsOf 53)) := by kernel_rfl
  have hp : Tryz.prog.stoodInHeld 53 = false := by kernel_rfl
  have hm : Tryz.prog.eqGuardType Tryz.prog.depth 53 = false := by kernel_rfl
  obtain ⟨a1, a2, a3, a4, a5, a6, a7⟩ := p
  obtain ⟨b1, b2, b3, b4, b5, b6, b7⟩ := q
  refine ⟨⟨run_eqGuard_agg w .eql _ x y _ _ hm, ?_⟩, run_eqGuard_agg w .neq _ x y _ _ hm, ?_⟩
  · rw [run_eql_struct, show (10000 : Nat) = 9999 + 1 from rfl, run_equalIn_agg w 9999 53 _ _ hS hp]
    simp only [Program.fieldsOf, Tryz.underlying53]
    go_simp
    by_cases h1 : a1 = b1
    · by_cases h2 : a2 = b2
      · by_cases h3 : a3 = b3
        · by_cases h4 : a4 = b4
          · by_cases h5 : a5 = b5
            · by_cases h6 : a6 = b6
              · by_cases h7 : a7 = b7 <;> simp [h1, h2, h3, h4, h5, h6, h7]
              · simp [h1, h2, h3, h4, h5, h6]
            · simp [h1, h2, h3, h4, h5]
          · simp [h1, h2, h3, h4]
        · simp [h1, h2, h3]
      · simp [h1, h2]
    · simp [h1]
  · rw [run_neq_struct, show (10000 : Nat) = 9999 + 1 from rfl, run_equalIn_agg w 9999 53 _ _ hS hp]
    simp only [Program.fieldsOf, Tryz.underlying53]
    go_simp
    by_cases h1 : a1 = b1
    · by_cases h2 : a2 = b2
      · by_cases h3 : a3 = b3
        · by_cases h4 : a4 = b4
          · by_cases h5 : a5 = b5
            · by_cases h6 : a6 = b6
              · by_cases h7 : a7 = b7 <;> simp [h1, h2, h3, h4, h5, h6, h7]
              · simp [h1, h2, h3, h4, h5, h6]
            · simp [h1, h2, h3, h4, h5]
          · simp [h1, h2, h3, h4]
        · simp [h1, h2, h3]
      · simp [h1, h2]
    · simp [h1]
end Go.Fw.K
