/- Chapter 24: '==' of pairs and of arcs, as the program's types have it. -/
import Derived.Test.YtjdojhhngganeaaGreatDoorFwT
import Derived.Test.YtjdojhhngganeaaGreatDoorProg
namespace Go.Fw.K
open Go Go.RowKit Go.Proofs Go.Fw

theorem eqPair : EqP Tryz.prog 44 := by
  intro x y p q w
  have u3 := Tryz.underlying3
  have a3 := Tryz.isAgg3
  have z3 := Tryz.sizeOf3
  have hS : Tryz.prog.underlying 44 = some (.struct (Tryz.prog.fieldsOf 44)) := by kernel_rfl
  have hp : Tryz.prog.stoodInHeld 44 = false := by kernel_rfl
  have hm : Tryz.prog.eqGuardType Tryz.prog.depth 44 = false := by kernel_rfl
  obtain ⟨a, b⟩ := p
  obtain ⟨c, d⟩ := q
  refine ⟨⟨run_eqGuard_agg w .eql _ x y _ _ hm, ?_⟩, run_eqGuard_agg w .neq _ x y _ _ hm, ?_⟩
  · rw [run_eql_struct, show (10000 : Nat) = 9999 + 1 from rfl, run_equalIn_agg w 9999 44 _ _ hS hp]
    simp only [Program.fieldsOf, Tryz.underlying44]
    go_simp
    by_cases h1 : a = c <;> by_cases h2 : b = d <;> simp [h1, h2]
  · rw [run_neq_struct, show (10000 : Nat) = 9999 + 1 from rfl, run_equalIn_agg w 9999 44 _ _ hS hp]
    simp only [Program.fieldsOf, Tryz.underlying44]
    go_simp
    by_cases h1 : a = c <;> by_cases h2 : b = d <;> simp [h1, h2]
theorem eqArc : EqP Tryz.prog 53 := by
  intro x y p q w
  have u3 := Tryz.underlying3
  have a3 := Tryz.isAgg3
  have z3 := Tryz.sizeOf3
  have hS : Tryz.prog.underlying 53 = some (.struct (Tryz.prog.fieldsOf 53)) := by kernel_rfl
  have hp : Tryz.prog.stoodInHeld 53 = false := by kernel_rfl
  have hm : Tryz.prog.eqGuardType Tryz.prog.depth 53 = false := by kernel_rfl
  obtain ⟨a, b⟩ := p
  obtain ⟨c, d⟩ := q
  refine ⟨⟨run_eqGuard_agg w .eql _ x y _ _ hm, ?_⟩, run_eqGuard_agg w .neq _ x y _ _ hm, ?_⟩
  · rw [run_eql_struct, show (10000 : Nat) = 9999 + 1 from rfl, run_equalIn_agg w 9999 53 _ _ hS hp]
    simp only [Program.fieldsOf, Tryz.underlying53]
    go_simp
    by_cases h1 : a = c <;> by_cases h2 : b = d <;> simp [h1, h2]
  · rw [run_neq_struct, show (10000 : Nat) = 9999 + 1 from rfl, run_equalIn_agg w 9999 53 _ _ hS hp]
    simp only [Program.fieldsOf, Tryz.underlying53]
    go_simp
    by_cases h1 : a = c <;> by_cases h2 : b = d <;> simp [h1, h2]
end Go.Fw.K
