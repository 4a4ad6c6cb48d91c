/- Walks through functions of the given program: each meets its contract. (Printed by a program of this repo.) -/
import Derived.Test.YtjolkfkekeolcaaGreatDoorS7
import Derived.Test.YtjolkfkekeolcaaGreatDoorS15
import Derived.Test.YtjolkfkekeolcaaGreatDoorS16
import Derived.Test.YtjolkfkekeolcaaGreatDoorProg
namespace Go.Fw.T7
open Go Go.RowKit Go.Proofs Go.Nat9 Go.Fw
attribute [local irreducible] JC JL JE
theorem ca21 : callable Tryz.prog 21 = true := by kernel_rfl
theorem ca22 : callable Tryz.prog 22 = true := by kernel_rfl
theorem ca7 : callable Tryz.prog 7 = true := by kernel_rfl
theorem ca8 : callable Tryz.prog 8 = true := by kernel_rfl
theorem fo28_0 : fOf Tryz.prog 28 0 = some 0 := by kernel_rfl
theorem fo28_1 : fOf Tryz.prog 28 1 = some 1 := by kernel_rfl
theorem sl37 : slOf Tryz.prog 37 = some (3, 1, 8, [.int .i64 0]) := by kernel_rfl
theorem ty3 : tyOf Tryz.prog 3 = some (false, 1) := by kernel_rfl
end Go.Fw.T7
namespace Go.Fw.K
open Go Go.RowKit Go.Proofs Go.Nat9 Go.Fw Go.Fw.T7
attribute [local irreducible] JC JL JE

set_option maxHeartbeats 4000000 in
theorem standardBest_con {ad0 : Option Addr} {c0 : Nat} {L : List Int} {ad3 : Option Addr} {c3 : Nat} {l : List Fi} (hr : ∀ x ∈ l, x.raw) (hn3 : l.length ≤ 9223372036854775807) {tol m : Int} (htol1 : -9223372036854775808 ≤ tol) (htol2 : tol ≤ 9223372036854775807) (hm1 : -9223372036854775808 ≤ m) (hm2 : m ≤ 9223372036854775807) :
    ConF Tryz.prog 6 [.slice ad0 L.length c0, .slice ad3 l.length c3, .agg #[.int .i64 tol, .int .i64 m]] [vCells ad0 (i64s L), vCells ad3 (rcells l), vFis l, vTab]
      (fun v φo => v = .bool true ∧ φo = []) := by
  have _ := htol1
  have _ := htol2
  have _ := hm1
  have _ := hm2
  refine ConF_of Tryz.func6 rfl 58 _ rfl rfl ?_
  intro w0
  refine JC_norm ⟨58, [], [_, _, _, _, _, _, _, _, _, _, _, _, _, _, _, _, _, _, _, _, _, _, _, _, _, _, _, _, _, _, _, _, _, _, _, _, _, _, _, _, _, _, _, _, _, _, _, _, _, _, _, _, _, _, _, _, _, _]⟩ [] [_, _, _, _] rfl rfl rfl ?_
  refine JC_seq ?_
  refine JC_region ?_
  refine JL_box rfl rfl (fun b5 => ?_)
  refine JL_assign rfl ?_
  refine JL_done_up 58 [box _ _ [_, _]] [_, _, _, _] rfl rfl (by simp only [nrmF]; rfl) rfl rfl ?_
  refine JC_seq ?_
  refine JC_seq ?_
  refine JC_region ?_
  refine JL_callF' (Asks.cons (holds_of_mem (by repeat (first | with_reducible exact mm0 | refine mmS ?_))) Asks.nil) (awake38_con) rfl ca7 rfl ?_
  rintro _ _ ⟨rfl, rfl⟩
  refine JL_not rfl ?_
  rw [Bool.not_true]
  refine JL_move rfl ?_
  refine JL_guard_yes rfl rfl ?_
  refine JL_move rfl ?_
  refine JL_guard_yes rfl rfl ?_
  refine JL_move rfl ?_
  refine JL_guard_yes rfl rfl ?_
  refine JL_callF' (Asks.cons (holds_of_mem (by repeat (first | with_reducible exact mm0 | refine mmS ?_))) Asks.nil) (fewB_con (l := l) hn3) rfl ca8 ⟨rfl, rfl, rfl⟩ ?_
  rintro _ _ ⟨rfl, rfl⟩
  refine JL_splitV (fun h16 => ?_) (fun h16 => ?_)
  · obtain ⟨_, hl40, hfx⟩ := of_decide_eq_true h16
    have hl := few_ok hr hfx
    refine JL_guard_yes rfl rfl ?_
    refine JL_not rfl ?_
    rw [Bool.not_true]
    refine JL_pick_f rfl rfl ?_
    refine JL_move rfl ?_
    refine JL_guard_yes rfl rfl ?_
    refine JL_move rfl ?_
    refine JL_guard_yes rfl rfl ?_
    refine JL_len sl37 rfl ?_
    refine JL_guard_yes rfl rfl ?_
    refine JL_gtr rfl rfl ?_
    refine JL_split (fun h22 => ?_) (fun h22 => ?_)
    · refine JL_guard_yes rfl rfl ?_
      refine JL_move rfl ?_
      refine JL_guard_yes rfl rfl ?_
      refine JL_move rfl ?_
      refine JL_guard_yes rfl rfl ?_
      refine JL_len sl37 rfl ?_
      refine JL_guard_yes rfl rfl ?_
      refine JL_lss rfl rfl ?_
      refine JL_split (fun h26 => ?_) (fun h26 => ?_)
      · refine JL_guard_yes rfl rfl ?_
        refine JL_pick_t rfl rfl ?_
        refine JL_pick_f rfl rfl ?_
        refine JL_done_up 58 [box _ _ [_, _]] [_, _, _, _] rfl rfl (by simp only [nrmF]; rfl) rfl rfl ?_
        refine JC_true rfl ?_
        refine JC_seq ?_
        refine JC_region ?_
        refine JL_callF' (Asks.cons (holds_of_mem (by repeat (first | with_reducible exact mm0 | refine mmS ?_))) Asks.nil) (awake38_con) rfl ca7 rfl ?_
        rintro _ _ ⟨rfl, rfl⟩
        refine JL_assign rfl ?_
        refine JL_done_up 58 [box _ _ [_, _]] [_, _, _, _] rfl rfl (by simp only [nrmF]; rfl) rfl rfl ?_
        refine JC_ret ?_
        refine JE_then_ret ?_
        refine JE_ret (vs := [_]) [] Tryz.results6 ⟨rfl, rfl⟩ ?_ ?_
        · exact ⟨rfl, rfl⟩
        · exact all_nil
      · refine JL_guard_yes rfl rfl ?_
        refine JL_pick_t rfl rfl ?_
        refine JL_pick_f rfl rfl ?_
        refine JL_done_up 58 [box _ _ [_, _]] [_, _, _, _] rfl rfl (by simp only [nrmF]; rfl) rfl rfl ?_
        refine JC_false rfl ?_
        refine JC_skip ?_
        refine JE_then ?_
        refine JC_seq ?_
        refine JC_region ?_
        refine JL_move rfl ?_
        refine JL_move rfl ?_
        refine JL_fieldAddr fo28_0 rfl ?_
        refine JL_load 0 ty3 rfl rfl rfl ?_
        refine JL_fieldAddr fo28_1 rfl ?_
        refine JL_load 0 ty3 rfl rfl rfl ?_
        refine JL_callF' (Asks.cons (holds_of_mem (by repeat (first | with_reducible exact mm0 | refine mmS ?_))) (Asks.cons (holds_of_mem (by repeat (first | with_reducible exact mm0 | refine mmS ?_))) (Asks.cons (holds_of_mem (by repeat (first | with_reducible exact mm0 | refine mmS ?_))) Asks.nil))) (ibest_con (tol := tol) (m := m) hl (by omega)) rfl ca21 ⟨rfl, rfl, rfl, rfl, rfl⟩ ?_
        rintro _ _ ⟨rfl, rfl⟩
        refine JL_move rfl ?_
        refine JL_extract rfl rfl ?_
        refine JL_extract rfl rfl ?_
        refine JL_assign rfl ?_
        refine JL_assign rfl ?_
        refine JL_done_up 58 [box _ _ [_, _]] [_, _, _, _] rfl rfl (by simp only [nrmF]; rfl) rfl rfl ?_
        refine JC_seq ?_
        refine JC_region ?_
        refine JL_move rfl ?_
        refine JL_move rfl ?_
        refine JL_fieldAddr fo28_0 rfl ?_
        refine JL_load 0 ty3 rfl rfl rfl ?_
        refine JL_fieldAddr fo28_1 rfl ?_
        refine JL_load 0 ty3 rfl rfl rfl ?_
        refine JL_callF' (Asks.cons (holds_of_mem (by repeat (first | with_reducible exact mm0 | refine mmS ?_))) (Asks.cons (holds_of_mem (by repeat (first | with_reducible exact mm0 | refine mmS ?_))) (Asks.cons (holds_of_mem (by repeat (first | with_reducible exact mm0 | refine mmS ?_))) Asks.nil))) (rbest_con (tol := tol) (m := m) hl (by omega)) rfl ca22 ⟨rfl, rfl, rfl, rfl, rfl⟩ ?_
        rintro _ _ ⟨rfl, rfl⟩
        refine JL_move rfl ?_
        refine JL_extract rfl rfl ?_
        refine JL_extract rfl rfl ?_
        refine JL_assign rfl ?_
        refine JL_assign rfl ?_
        refine JL_done_up 58 [box _ _ [_, _]] [_, _, _, _] rfl rfl (by simp only [nrmF]; rfl) rfl rfl ?_
        refine JC_seq ?_
        refine JC_region ?_
        refine JL_move rfl ?_
        refine JL_move rfl ?_
        refine JL_eql rfl rfl ?_
        rw [decide_eq_true (p := bestK L l tol m = bestK L l tol m) rfl]
        refine JL_move rfl ?_
        refine JL_guard_yes rfl rfl ?_
        refine JL_move rfl ?_
        refine JL_guard_yes rfl rfl ?_
        refine JL_move rfl ?_
        refine JL_guard_yes rfl rfl ?_
        refine JL_eql rfl rfl ?_
        rw [decide_eq_true (p := bestE L l tol m = bestE L l tol m) rfl]
        refine JL_pick_t rfl rfl ?_
        refine JL_assign rfl ?_
        refine JL_done_up 58 [box _ _ [_, _]] [_, _, _, _] rfl rfl (by simp only [nrmF]; rfl) rfl rfl ?_
        refine JC_ret ?_
        refine JE_ret (vs := [_]) [] Tryz.results6 ⟨rfl, rfl⟩ ?_ ?_
        · exact ⟨rfl, rfl⟩
        · exact all_nil
    · refine JL_guard_yes rfl rfl ?_
      refine JL_move rfl ?_
      refine JL_guard_no rfl rfl ?_
      refine JL_guard_no rfl rfl ?_
      refine JL_guard_no rfl rfl ?_
      refine JL_guard_yes rfl rfl ?_
      refine JL_pick_f rfl rfl ?_
      refine JL_pick_f rfl rfl ?_
      refine JL_done_up 58 [box _ _ [_, _]] [_, _, _, _] rfl rfl (by simp only [nrmF]; rfl) rfl rfl ?_
      refine JC_false rfl ?_
      refine JC_skip ?_
      refine JE_then ?_
      refine JC_seq ?_
      refine JC_region ?_
      refine JL_move rfl ?_
      refine JL_move rfl ?_
      refine JL_fieldAddr fo28_0 rfl ?_
      refine JL_load 0 ty3 rfl rfl rfl ?_
      refine JL_fieldAddr fo28_1 rfl ?_
      refine JL_load 0 ty3 rfl rfl rfl ?_
      refine JL_callF' (Asks.cons (holds_of_mem (by repeat (first | with_reducible exact mm0 | refine mmS ?_))) (Asks.cons (holds_of_mem (by repeat (first | with_reducible exact mm0 | refine mmS ?_))) (Asks.cons (holds_of_mem (by repeat (first | with_reducible exact mm0 | refine mmS ?_))) Asks.nil))) (ibest_con (tol := tol) (m := m) hl (by omega)) rfl ca21 ⟨rfl, rfl, rfl, rfl, rfl⟩ ?_
      rintro _ _ ⟨rfl, rfl⟩
      refine JL_move rfl ?_
      refine JL_extract rfl rfl ?_
      refine JL_extract rfl rfl ?_
      refine JL_assign rfl ?_
      refine JL_assign rfl ?_
      refine JL_done_up 58 [box _ _ [_, _]] [_, _, _, _] rfl rfl (by simp only [nrmF]; rfl) rfl rfl ?_
      refine JC_seq ?_
      refine JC_region ?_
      refine JL_move rfl ?_
      refine JL_move rfl ?_
      refine JL_fieldAddr fo28_0 rfl ?_
      refine JL_load 0 ty3 rfl rfl rfl ?_
      refine JL_fieldAddr fo28_1 rfl ?_
      refine JL_load 0 ty3 rfl rfl rfl ?_
      refine JL_callF' (Asks.cons (holds_of_mem (by repeat (first | with_reducible exact mm0 | refine mmS ?_))) (Asks.cons (holds_of_mem (by repeat (first | with_reducible exact mm0 | refine mmS ?_))) (Asks.cons (holds_of_mem (by repeat (first | with_reducible exact mm0 | refine mmS ?_))) Asks.nil))) (rbest_con (tol := tol) (m := m) hl (by omega)) rfl ca22 ⟨rfl, rfl, rfl, rfl, rfl⟩ ?_
      rintro _ _ ⟨rfl, rfl⟩
      refine JL_move rfl ?_
      refine JL_extract rfl rfl ?_
      refine JL_extract rfl rfl ?_
      refine JL_assign rfl ?_
      refine JL_assign rfl ?_
      refine JL_done_up 58 [box _ _ [_, _]] [_, _, _, _] rfl rfl (by simp only [nrmF]; rfl) rfl rfl ?_
      refine JC_seq ?_
      refine JC_region ?_
      refine JL_move rfl ?_
      refine JL_move rfl ?_
      refine JL_eql rfl rfl ?_
      rw [decide_eq_true (p := bestK L l tol m = bestK L l tol m) rfl]
      refine JL_move rfl ?_
      refine JL_guard_yes rfl rfl ?_
      refine JL_move rfl ?_
      refine JL_guard_yes rfl rfl ?_
      refine JL_move rfl ?_
      refine JL_guard_yes rfl rfl ?_
      refine JL_eql rfl rfl ?_
      rw [decide_eq_true (p := bestE L l tol m = bestE L l tol m) rfl]
      refine JL_pick_t rfl rfl ?_
      refine JL_assign rfl ?_
      refine JL_done_up 58 [box _ _ [_, _]] [_, _, _, _] rfl rfl (by simp only [nrmF]; rfl) rfl rfl ?_
      refine JC_ret ?_
      refine JE_ret (vs := [_]) [] Tryz.results6 ⟨rfl, rfl⟩ ?_ ?_
      · exact ⟨rfl, rfl⟩
      · exact all_nil
  · refine JL_guard_yes rfl rfl ?_
    refine JL_not rfl ?_
    rw [Bool.not_false]
    refine JL_pick_f rfl rfl ?_
    refine JL_move rfl ?_
    refine JL_guard_no rfl rfl ?_
    refine JL_guard_no rfl rfl ?_
    refine JL_guard_no rfl rfl ?_
    refine JL_guard_no rfl rfl ?_
    refine JL_guard_un rfl rfl ?_
    refine JL_guard_un rfl rfl ?_
    refine JL_guard_un rfl rfl ?_
    refine JL_guard_no rfl rfl ?_
    refine JL_pick_t rfl rfl ?_
    refine JL_done_up 58 [box _ _ [_, _]] [_, _, _, _] rfl rfl (by simp only [nrmF]; rfl) rfl rfl ?_
    refine JC_true rfl ?_
    refine JC_seq ?_
    refine JC_region ?_
    refine JL_callF' (Asks.cons (holds_of_mem (by repeat (first | with_reducible exact mm0 | refine mmS ?_))) Asks.nil) (awake38_con) rfl ca7 rfl ?_
    rintro _ _ ⟨rfl, rfl⟩
    refine JL_assign rfl ?_
    refine JL_done_up 58 [box _ _ [_, _]] [_, _, _, _] rfl rfl (by simp only [nrmF]; rfl) rfl rfl ?_
    refine JC_ret ?_
    refine JE_then_ret ?_
    refine JE_ret (vs := [_]) [] Tryz.results6 ⟨rfl, rfl⟩ ?_ ?_
    · exact ⟨rfl, rfl⟩
    · exact all_nil

end Go.Fw.K
