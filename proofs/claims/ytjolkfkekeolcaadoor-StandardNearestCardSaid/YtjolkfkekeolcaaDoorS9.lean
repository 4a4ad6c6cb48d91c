/- Walks through functions of the given program: each meets its contract. (Printed by a program of this repo.) -/
import Derived.Test.YtjolkfkekeolcaaDoorS6
import Derived.Test.YtjolkfkekeolcaaDoorStdE
import Derived.Test.YtjolkfkekeolcaaDoorProg
namespace Go.Fw.S9
open Go Go.RowKit Go.Proofs Go.Nat9 Go.Fw
attribute [local irreducible] JC JL JE

end Go.Fw.S9
namespace Go.Fw.K
open Go Go.RowKit Go.Proofs Go.Nat9 Go.Fw Go.Fw.S9
attribute [local irreducible] JC JL JE

theorem bmod_con {a y : Int} (hy : 1 ≤ y ∧ y ≤ 1000) :
    ConF Tryd.prog 19 [.int .i64 a, .int .i64 y] []
      (fun v φo => v = .int .i64 (imod a y) ∧ φo = []) := by
  have ht1 := Int.lt_tmod_of_pos a (show 0 < y by omega)
  have ht2 := Int.tmod_lt_of_pos a (show 0 < y by omega)
  refine ConF_of Tryd.func19 rfl 15 _ rfl rfl ?_
  intro w0
  refine JC_norm ⟨15, [], [_, _, _, _, _, _, _, _, _, _, _, _, _, _, _]⟩ [] [] rfl rfl rfl ?_
  refine JC_seq ?_
  refine JC_region ?_
  refine JL_assign rfl ?_
  refine JL_done_up 15 [] [] rfl rfl (by simp only [nrmF]; rfl) rfl rfl ?_
  refine JC_seq ?_
  refine JC_region ?_
  refine JL_move rfl ?_
  refine JL_move rfl ?_
  refine JL_rem_to rfl rfl (by omega) rfl ?_
  refine JL_assign rfl ?_
  refine JL_done_up 15 [] [] rfl rfl (by simp only [nrmF]; rfl) rfl rfl ?_
  refine JC_seq ?_
  refine JC_seq ?_
  refine JC_region ?_
  refine JL_move rfl ?_
  refine JL_lss rfl rfl ?_
  refine JL_split (fun h10 => ?_) (fun h10 => ?_)
  · refine JL_done_up 15 [] [] rfl rfl (by simp only [nrmF]; rfl) rfl rfl ?_
    refine JC_true rfl ?_
    refine JC_region ?_
    refine JL_move rfl ?_
    refine JL_move rfl ?_
    refine JL_add_to rfl rfl (IntWalk.i64_in _ (by omega)) ?_
    refine JL_assign rfl ?_
    refine JL_done_up 15 [] [] rfl rfl (by simp only [nrmF]; rfl) rfl rfl ?_
    refine JC_seq ?_
    refine JC_region ?_
    refine JL_move rfl ?_
    refine JL_assign rfl ?_
    refine JL_done_up 15 [] [] rfl rfl (by simp only [nrmF]; rfl) rfl rfl ?_
    refine JC_ret ?_
    refine JE_ret (vs := [_]) [] Tryd.results19 ⟨rfl, rfl⟩ ?_ ?_
    · rw [imod_neg h10]; exact ⟨rfl, rfl⟩
    · exact all_nil
  · refine JL_done_up 15 [] [] rfl rfl (by simp only [nrmF]; rfl) rfl rfl ?_
    refine JC_false rfl ?_
    refine JC_skip ?_
    refine JE_then ?_
    refine JC_seq ?_
    refine JC_region ?_
    refine JL_move rfl ?_
    refine JL_assign rfl ?_
    refine JL_done_up 15 [] [] rfl rfl (by simp only [nrmF]; rfl) rfl rfl ?_
    refine JC_ret ?_
    refine JE_ret (vs := [_]) [] Tryd.results19 ⟨rfl, rfl⟩ ?_ ?_
    · rw [imod_pos h10]; exact ⟨rfl, rfl⟩
    · exact all_nil

end Go.Fw.K
