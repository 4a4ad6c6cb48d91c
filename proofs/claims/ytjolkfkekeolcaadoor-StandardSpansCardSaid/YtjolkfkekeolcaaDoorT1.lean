/- Walks through functions of the given program: each meets its contract. (Printed by a program of this repo.) -/
import Derived.Test.YtjolkfkekeolcaaDoorS1
import Derived.Test.YtjolkfkekeolcaaDoorS2
import Derived.Test.YtjolkfkekeolcaaDoorS3
import Derived.Test.YtjolkfkekeolcaaDoorS7
import Derived.Test.YtjolkfkekeolcaaDoorProg
namespace Go.Fw.T1
open Go Go.RowKit Go.Proofs Go.Nat9 Go.Fw
attribute [local irreducible] JC JL JE
theorem ca10 : callable Tryd.prog 10 = true := by kernel_rfl
theorem ca11 : callable Tryd.prog 11 = true := by kernel_rfl
theorem ca12 : callable Tryd.prog 12 = true := by kernel_rfl
theorem ca9 : callable Tryd.prog 9 = true := by kernel_rfl
theorem fo23_0 : fOf Tryd.prog 23 0 = some 0 := by kernel_rfl
theorem fo23_1 : fOf Tryd.prog 23 1 = some 1 := by kernel_rfl
theorem ty3 : tyOf Tryd.prog 3 = some (false, 1) := by kernel_rfl
end Go.Fw.T1
namespace Go.Fw.K
open Go Go.RowKit Go.Proofs Go.Nat9 Go.Fw Go.Fw.T1
attribute [local irreducible] JC JL JE

theorem standardSpans_con {w tol m : Int} (hw1 : -9223372036854775808 ≤ w) (hw2 : w ≤ 9223372036854775807) (htol1 : -9223372036854775808 ≤ tol) (htol2 : tol ≤ 9223372036854775807) (hm1 : -9223372036854775808 ≤ m) (hm2 : m ≤ 9223372036854775807) :
    ConF Tryd.prog 3 [.int .i64 w, .agg #[.int .i64 tol, .int .i64 m]] [vTab]
      (fun v φo => v = .bool true ∧ φo = []) := by
  have _ := hw1
  have _ := hw2
  have _ := htol1
  have _ := htol2
  have _ := hm1
  have _ := hm2
  refine ConF_of Tryd.func3 rfl 37 _ rfl rfl ?_
  intro w0
  refine JC_norm ⟨37, [], [_, _, _, _, _, _, _, _, _, _, _, _, _, _, _, _, _, _, _, _, _, _, _, _, _, _, _, _, _, _, _, _, _, _, _, _, _]⟩ [] [_] rfl rfl rfl ?_
  refine JC_seq ?_
  refine JC_region ?_
  refine JL_box rfl rfl (fun b3 => ?_)
  refine JL_assign rfl ?_
  refine JL_done_up 37 [box _ _ [_, _]] [_] rfl rfl (by simp only [nrmF]; rfl) rfl rfl ?_
  refine JC_seq ?_
  refine JC_seq ?_
  refine JC_region ?_
  refine JL_callF' (Asks.cons (holds_of_mem (by repeat (first | with_reducible exact mm0 | refine mmS ?_))) Asks.nil) (awake38_con) rfl ca9 rfl ?_
  rintro _ _ ⟨rfl, rfl⟩
  refine JL_not rfl ?_
  rw [Bool.not_true]
  refine JL_done_up 37 [box _ _ [_, _]] [_] rfl rfl (by simp only [nrmF]; rfl) rfl rfl ?_
  refine JC_false rfl ?_
  refine JC_skip ?_
  refine JE_then ?_
  refine JC_seq ?_
  refine JC_region ?_
  refine JL_move rfl ?_
  refine JL_fieldAddr fo23_0 rfl ?_
  refine JL_load 0 ty3 rfl rfl rfl ?_
  refine JL_fieldAddr fo23_1 rfl ?_
  refine JL_load 0 ty3 rfl rfl rfl ?_
  refine JL_callF' Asks.nil (ispans_con) rfl ca10 ⟨rfl, rfl, rfl, rfl⟩ ?_
  rintro _ _ ⟨ad17, c17, l17, rfl, hl17, rfl⟩
  refine JL_move rfl ?_
  refine JL_extract rfl rfl ?_
  refine JL_extract rfl rfl ?_
  refine JL_assign rfl ?_
  refine JL_assign rfl ?_
  refine JL_done_up 37 [box _ _ [_, _]] [_, _, _] rfl rfl (by simp only [nrmF]; rfl) rfl rfl ?_
  refine JC_seq ?_
  refine JC_region ?_
  refine JL_move rfl ?_
  refine JL_fieldAddr fo23_0 rfl ?_
  refine JL_load 0 ty3 rfl rfl rfl ?_
  refine JL_fieldAddr fo23_1 rfl ?_
  refine JL_load 0 ty3 rfl rfl rfl ?_
  refine JL_callF' Asks.nil (rspans_con) rfl ca11 ⟨rfl, rfl, rfl, rfl⟩ ?_
  rintro _ _ ⟨ad26, c26, l26, rfl, hl26, rfl⟩
  refine JL_move rfl ?_
  refine JL_extract rfl rfl ?_
  refine JL_extract rfl rfl ?_
  refine JL_assign rfl ?_
  refine JL_assign rfl ?_
  refine JL_done_up 37 [box _ _ [_, _]] [_, _, _, _, _] rfl rfl (by simp only [nrmF]; rfl) rfl rfl ?_
  refine JC_seq ?_
  refine JC_region ?_
  refine JL_move rfl ?_
  refine JL_move rfl ?_
  refine JL_callF' (Asks.cons (holds_of_mem (by repeat (first | with_reducible exact mm0 | refine mmS ?_))) (Asks.cons (holds_of_mem (by repeat (first | with_reducible exact mm0 | refine mmS ?_))) (Asks.cons (holds_of_mem (by repeat (first | with_reducible exact mm0 | refine mmS ?_))) (Asks.cons (holds_of_mem (by repeat (first | with_reducible exact mm0 | refine mmS ?_))) Asks.nil)))) (bspans_con (hl17.trans hl26.symm) (by have := spL_len w tol m; rw [← hl17, List.length_map] at this; omega) (se_qs hl17 (qs_spL w tol m))) rfl ca12 ⟨rfl, rfl, rfl⟩ ?_
  rintro _ _ ⟨rfl, rfl⟩
  refine JL_move rfl ?_
  refine JL_guard_yes rfl rfl ?_
  refine JL_move rfl ?_
  refine JL_guard_yes rfl rfl ?_
  refine JL_move rfl ?_
  refine JL_guard_yes rfl rfl ?_
  refine JL_eql rfl rfl ?_
  rw [decide_eq_true rfl]
  refine JL_pick_t rfl rfl ?_
  refine JL_assign rfl ?_
  refine JL_done_up 37 [box _ _ [_, _]] [_, _, _, _, _] rfl rfl (by simp only [nrmF]; rfl) rfl rfl ?_
  refine JC_ret ?_
  refine JE_ret (vs := [_]) [] Tryd.results3 ⟨rfl, rfl⟩ ?_ ?_
  · exact ⟨rfl, rfl⟩
  · exact all_nil

end Go.Fw.K
