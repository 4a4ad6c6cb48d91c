/- Chapter 48: '==' of pairs and of entries, as the program's types have it. -/
import Derived.Test.YthaepkealhkkmaaFwT
import Derived.Test.YthaepkealhkkmaaProg
namespace Go.Fw.K
open Go Go.RowKit Go.Proofs Go.Fw

theorem eqPair : EqP Try.prog 51 := by
  intro x y p q w
  have u3 := Try.underlying3
  have a3 := Try.isAgg3
  have z3 := Try.sizeOf3
  have hS : Try.prog.underlying 51 = some (.struct (Try.prog.fieldsOf 51)) := by kernel_rfl
  have hp : Try.prog.stoodInHeld 51 = false := by kernel_rfl
  have hm : Try.prog.eqGuardType Try.prog.depth 51 = false := by kernel_rfl
  obtain ⟨a, b⟩ := p
  obtain ⟨c, d⟩ := q
  refine ⟨⟨run_eqGuard_agg w .eql _ x y _ _ hm, ?_⟩, run_eqGuard_agg w .neq _ x y _ _ hm, ?_⟩
  · rw [run_eql_struct, show (10000 : Nat) = 9999 + 1 from rfl, run_equalIn_agg w 9999 51 _ _ hS hp]
    simp only [Program.fieldsOf, Try.underlying51]
    go_simp
    by_cases h1 : a = c <;> by_cases h2 : b = d <;> simp [h1, h2]
  · rw [run_neq_struct, show (10000 : Nat) = 9999 + 1 from rfl, run_equalIn_agg w 9999 51 _ _ hS hp]
    simp only [Program.fieldsOf, Try.underlying51]
    go_simp
    by_cases h1 : a = c <;> by_cases h2 : b = d <;> simp [h1, h2]
end Go.Fw.K
