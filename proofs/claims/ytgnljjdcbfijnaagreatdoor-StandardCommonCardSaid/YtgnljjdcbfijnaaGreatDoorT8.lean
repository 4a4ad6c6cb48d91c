/- Walks through functions of the given program: each meets its contract. (Printed by a program of this repo.) -/
import Derived.Test.YtgnljjdcbfijnaaGreatDoorS7
import Derived.Test.YtgnljjdcbfijnaaGreatDoorS19
import Derived.Test.YtgnljjdcbfijnaaGreatDoorS20
import Derived.Test.YtgnljjdcbfijnaaGreatDoorS3
import Derived.Test.YtgnljjdcbfijnaaGreatDoorProg
namespace Go.Fw.T8
open Go Go.RowKit Go.Proofs Go.Nat9 Go.Fw
attribute [local irreducible] JC JL JE
theorem ca18 : callable Tryz.prog 18 = true := by kernel_rfl
theorem ca19 : callable Tryz.prog 19 = true := by kernel_rfl
theorem ca20 : callable Tryz.prog 20 = true := by kernel_rfl
theorem ca7 : callable Tryz.prog 7 = true := by kernel_rfl
theorem ca8 : callable Tryz.prog 8 = true := by kernel_rfl
theorem fo28_0 : fOf Tryz.prog 28 0 = some 0 := by kernel_rfl
theorem fo28_1 : fOf Tryz.prog 28 1 = some 1 := by kernel_rfl
theorem sl37 : slOf Tryz.prog 37 = some (3, 1, 8, [.int .i64 0]) := by kernel_rfl
theorem ty3 : tyOf Tryz.prog 3 = some (false, 1) := by kernel_rfl
end Go.Fw.T8
namespace Go.Fw.K
open Go Go.RowKit Go.Proofs Go.Nat9 Go.Fw Go.Fw.T8
attribute [local irreducible] JC JL JE

set_option maxHeartbeats 4000000 in
theorem standardCommon_con {ad0 : Option Addr} {c0 : Nat} {L : List Int} (hc0 : L.length ≤ c0 ∧ c0 ≤ 9223372036854775807 ∧ ∀ z ∈ L, -9223372036854775808 ≤ z ∧ z ≤ 9223372036854775807) {tol m : Int} (htol1 : -9223372036854775808 ≤ tol) (htol2 : tol ≤ 9223372036854775807) (hm1 : -9223372036854775808 ≤ m) (hm2 : m ≤ 9223372036854775807) :
    ConF Tryz.prog 5 [.slice ad0 L.length c0, .agg #[.int .i64 tol, .int .i64 m]] [vCells ad0 (i64s L), vTab]
      (fun v φo => v = .bool true ∧ φo = []) := by
  have _ := htol1
  have _ := htol2
  have _ := hm1
  have _ := hm2
  refine ConF_of Tryz.func5 rfl 53 _ rfl rfl ?_
  intro w0
  refine JC_norm ⟨53, [], [_, _, _, _, _, _, _, _, _, _, _, _, _, _, _, _, _, _, _, _, _, _, _, _, _, _, _, _, _, _, _, _, _, _, _, _, _, _, _, _, _, _, _, _, _, _, _, _, _, _, _, _, _]⟩ [] [_, _] rfl rfl rfl ?_
  refine JC_seq ?_
  refine JC_region ?_
  refine JL_box rfl rfl (fun b3 => ?_)
  refine JL_assign rfl ?_
  refine JL_done_up 53 [box _ _ [_, _]] [_, _] rfl rfl (by simp only [nrmF]; rfl) rfl rfl ?_
  refine JC_seq ?_
  refine JC_seq ?_
  refine JC_addView (f := true) (p := vCells none (rcells [])) (fun _ _ => nil_view) ?_
  refine JC_region ?_
  refine JL_callF' (Asks.cons (holds_of_mem (by repeat (first | with_reducible exact mm0 | refine mmS ?_))) Asks.nil) (awake38_con) rfl ca7 rfl ?_
  rintro _ _ ⟨rfl, rfl⟩
  refine JL_not rfl ?_
  rw [Bool.not_true]
  refine JL_move rfl ?_
  refine JL_guard_yes rfl rfl ?_
  refine JL_move rfl ?_
  refine JL_guard_yes rfl rfl ?_
  refine JL_callF' (Asks.cons (holds_of_mem (by repeat (first | with_reducible exact mm0 | refine mmS ?_))) Asks.nil) (fewB_con (l := []) (Nat.le_of_ble_eq_true rfl)) rfl ca8 ⟨rfl, rfl, rfl⟩ ?_
  rintro _ _ ⟨rfl, rfl⟩
  refine JL_splitV (fun h13 => ?_) (fun h13 => ?_)
  · refine JL_guard_yes rfl rfl ?_
    refine JL_not rfl ?_
    rw [Bool.not_true]
    refine JL_pick_f rfl rfl ?_
    refine JL_move rfl ?_
    refine JL_guard_yes rfl rfl ?_
    refine JL_move rfl ?_
    refine JL_guard_yes rfl rfl ?_
    refine JL_len sl37 rfl ?_
    refine JL_guard_yes rfl rfl ?_
    refine JL_gtr rfl rfl ?_
    refine JL_split (fun h19 => ?_) (fun h19 => ?_)
    · refine JL_guard_yes rfl rfl ?_
      refine JL_move rfl ?_
      refine JL_guard_yes rfl rfl ?_
      refine JL_move rfl ?_
      refine JL_guard_yes rfl rfl ?_
      refine JL_len sl37 rfl ?_
      refine JL_guard_yes rfl rfl ?_
      refine JL_lss rfl rfl ?_
      refine JL_split (fun h23 => ?_) (fun h23 => ?_)
      · refine JL_guard_yes rfl rfl ?_
        refine JL_pick_t rfl rfl ?_
        refine JL_pick_f rfl rfl ?_
        refine JL_done_up 53 [box _ _ [_, _]] [_, _, _] rfl rfl (by simp only [nrmF]; rfl) rfl rfl ?_
        refine JC_true rfl ?_
        refine JC_seq ?_
        refine JC_region ?_
        refine JL_callF' (Asks.cons (holds_of_mem (by repeat (first | with_reducible exact mm0 | refine mmS ?_))) Asks.nil) (awake38_con) rfl ca7 rfl ?_
        rintro _ _ ⟨rfl, rfl⟩
        refine JL_assign rfl ?_
        refine JL_done_up 53 [box _ _ [_, _]] [_, _, _] rfl rfl (by simp only [nrmF]; rfl) rfl rfl ?_
        refine JC_ret ?_
        refine JE_then_ret ?_
        refine JE_ret (vs := [_]) [] Tryz.results5 ⟨rfl, rfl⟩ ?_ ?_
        · exact ⟨rfl, rfl⟩
        · exact all_nil
      · refine JL_guard_yes rfl rfl ?_
        refine JL_pick_t rfl rfl ?_
        refine JL_pick_f rfl rfl ?_
        refine JL_done_up 53 [box _ _ [_, _]] [_, _, _] rfl rfl (by simp only [nrmF]; rfl) rfl rfl ?_
        refine JC_false rfl ?_
        refine JC_skip ?_
        refine JE_then ?_
        refine JC_seq ?_
        refine JC_region ?_
        refine JL_move rfl ?_
        refine JL_fieldAddr fo28_0 rfl ?_
        refine JL_load 0 ty3 rfl rfl rfl ?_
        refine JL_fieldAddr fo28_1 rfl ?_
        refine JL_load 0 ty3 rfl rfl rfl ?_
        refine JL_callF' (Asks.cons (holds_of_mem (by repeat (first | with_reducible exact mm0 | refine mmS ?_))) Asks.nil) (icommon_con (tol := tol) (m := m) hc0.1) rfl ca18 ⟨rfl, rfl, rfl, rfl⟩ ?_
        rintro _ _ ⟨ad33, c33, l33, rfl, hl33, rfl⟩
        refine JL_move rfl ?_
        refine JL_extract rfl rfl ?_
        refine JL_extract rfl rfl ?_
        refine JL_assign rfl ?_
        refine JL_assign rfl ?_
        refine JL_done_up 53 [box _ _ [_, _]] [_, _, _, _, _] rfl rfl (by simp only [nrmF]; rfl) rfl rfl ?_
        refine JC_seq ?_
        refine JC_region ?_
        refine JL_move rfl ?_
        refine JL_fieldAddr fo28_0 rfl ?_
        refine JL_load 0 ty3 rfl rfl rfl ?_
        refine JL_fieldAddr fo28_1 rfl ?_
        refine JL_load 0 ty3 rfl rfl rfl ?_
        refine JL_callF' (Asks.cons (holds_of_mem (by repeat (first | with_reducible exact mm0 | refine mmS ?_))) Asks.nil) (rcommon_con (tol := tol) (m := m)) rfl ca19 ⟨rfl, rfl, rfl, rfl⟩ ?_
        rintro _ _ ⟨ad42, c42, l42, rfl, hl42, rfl⟩
        refine JL_move rfl ?_
        refine JL_extract rfl rfl ?_
        refine JL_extract rfl rfl ?_
        refine JL_assign rfl ?_
        refine JL_assign rfl ?_
        refine JL_done_up 53 [box _ _ [_, _]] [_, _, _, _, _, _, _] rfl rfl (by simp only [nrmF]; rfl) rfl rfl ?_
        refine JC_seq ?_
        refine JC_region ?_
        refine JL_move rfl ?_
        refine JL_move rfl ?_
        refine JL_callF' (Asks.cons (holds_of_mem (by repeat (first | with_reducible exact mm0 | refine mmS ?_))) (Asks.cons (holds_of_mem (by repeat (first | with_reducible exact mm0 | refine mmS ?_))) (Asks.cons (holds_of_mem (by repeat (first | with_reducible exact mm0 | refine mmS ?_))) (Asks.cons (holds_of_mem (by repeat (first | with_reducible exact mm0 | refine mmS ?_))) Asks.nil)))) (bspans_con (hl33.trans hl42.symm) (by have := comR_len L tol m; rw [← hl33, List.length_map] at this; omega) (se_qs hl33 (comR_qs L tol m))) rfl ca20 ⟨rfl, rfl, rfl⟩ ?_
        rintro _ _ ⟨rfl, rfl⟩
        refine JL_move rfl ?_
        refine JL_guard_yes rfl rfl ?_
        refine JL_move rfl ?_
        refine JL_guard_yes rfl rfl ?_
        refine JL_move rfl ?_
        refine JL_guard_yes rfl rfl ?_
        refine JL_eql rfl rfl ?_
        rw [decide_eq_true (p := comE L tol m = comE L tol m) rfl]
        refine JL_pick_t rfl rfl ?_
        refine JL_assign rfl ?_
        refine JL_done_up 53 [box _ _ [_, _]] [_, _, _, _, _, _, _] rfl rfl (by simp only [nrmF]; rfl) rfl rfl ?_
        refine JC_ret ?_
        refine JE_ret (vs := [_]) [] Tryz.results5 ⟨rfl, rfl⟩ ?_ ?_
        · exact ⟨rfl, rfl⟩
        · exact all_nil
    · refine JL_guard_yes rfl rfl ?_
      refine JL_move rfl ?_
      refine JL_guard_no rfl rfl ?_
      refine JL_guard_no rfl rfl ?_
      refine JL_guard_no rfl rfl ?_
      refine JL_guard_yes rfl rfl ?_
      refine JL_pick_f rfl rfl ?_
      refine JL_pick_f rfl rfl ?_
      refine JL_done_up 53 [box _ _ [_, _]] [_, _, _] rfl rfl (by simp only [nrmF]; rfl) rfl rfl ?_
      refine JC_false rfl ?_
      refine JC_skip ?_
      refine JE_then ?_
      refine JC_seq ?_
      refine JC_region ?_
      refine JL_move rfl ?_
      refine JL_fieldAddr fo28_0 rfl ?_
      refine JL_load 0 ty3 rfl rfl rfl ?_
      refine JL_fieldAddr fo28_1 rfl ?_
      refine JL_load 0 ty3 rfl rfl rfl ?_
      refine JL_callF' (Asks.cons (holds_of_mem (by repeat (first | with_reducible exact mm0 | refine mmS ?_))) Asks.nil) (icommon_con (tol := tol) (m := m) hc0.1) rfl ca18 ⟨rfl, rfl, rfl, rfl⟩ ?_
      rintro _ _ ⟨ad33, c33, l33, rfl, hl33, rfl⟩
      refine JL_move rfl ?_
      refine JL_extract rfl rfl ?_
      refine JL_extract rfl rfl ?_
      refine JL_assign rfl ?_
      refine JL_assign rfl ?_
      refine JL_done_up 53 [box _ _ [_, _]] [_, _, _, _, _] rfl rfl (by simp only [nrmF]; rfl) rfl rfl ?_
      refine JC_seq ?_
      refine JC_region ?_
      refine JL_move rfl ?_
      refine JL_fieldAddr fo28_0 rfl ?_
      refine JL_load 0 ty3 rfl rfl rfl ?_
      refine JL_fieldAddr fo28_1 rfl ?_
      refine JL_load 0 ty3 rfl rfl rfl ?_
      refine JL_callF' (Asks.cons (holds_of_mem (by repeat (first | with_reducible exact mm0 | refine mmS ?_))) Asks.nil) (rcommon_con (tol := tol) (m := m)) rfl ca19 ⟨rfl, rfl, rfl, rfl⟩ ?_
      rintro _ _ ⟨ad42, c42, l42, rfl, hl42, rfl⟩
      refine JL_move rfl ?_
      refine JL_extract rfl rfl ?_
      refine JL_extract rfl rfl ?_
      refine JL_assign rfl ?_
      refine JL_assign rfl ?_
      refine JL_done_up 53 [box _ _ [_, _]] [_, _, _, _, _, _, _] rfl rfl (by simp only [nrmF]; rfl) rfl rfl ?_
      refine JC_seq ?_
      refine JC_region ?_
      refine JL_move rfl ?_
      refine JL_move rfl ?_
      refine JL_callF' (Asks.cons (holds_of_mem (by repeat (first | with_reducible exact mm0 | refine mmS ?_))) (Asks.cons (holds_of_mem (by repeat (first | with_reducible exact mm0 | refine mmS ?_))) (Asks.cons (holds_of_mem (by repeat (first | with_reducible exact mm0 | refine mmS ?_))) (Asks.cons (holds_of_mem (by repeat (first | with_reducible exact mm0 | refine mmS ?_))) Asks.nil)))) (bspans_con (hl33.trans hl42.symm) (by have := comR_len L tol m; rw [← hl33, List.length_map] at this; omega) (se_qs hl33 (comR_qs L tol m))) rfl ca20 ⟨rfl, rfl, rfl⟩ ?_
      rintro _ _ ⟨rfl, rfl⟩
      refine JL_move rfl ?_
      refine JL_guard_yes rfl rfl ?_
      refine JL_move rfl ?_
      refine JL_guard_yes rfl rfl ?_
      refine JL_move rfl ?_
      refine JL_guard_yes rfl rfl ?_
      refine JL_eql rfl rfl ?_
      rw [decide_eq_true (p := comE L tol m = comE L tol m) rfl]
      refine JL_pick_t rfl rfl ?_
      refine JL_assign rfl ?_
      refine JL_done_up 53 [box _ _ [_, _]] [_, _, _, _, _, _, _] rfl rfl (by simp only [nrmF]; rfl) rfl rfl ?_
      refine JC_ret ?_
      refine JE_ret (vs := [_]) [] Tryz.results5 ⟨rfl, rfl⟩ ?_ ?_
      · exact ⟨rfl, rfl⟩
      · exact all_nil
  · refine JL_guard_yes rfl rfl ?_
    refine JL_not rfl ?_
    rw [Bool.not_false]
    refine JL_pick_f rfl rfl ?_
    refine JL_move rfl ?_
    refine JL_guard_no rfl rfl ?_
    refine JL_guard_no rfl rfl ?_
    refine JL_guard_no rfl rfl ?_
    refine JL_guard_no rfl rfl ?_
    refine JL_guard_un rfl rfl ?_
    refine JL_guard_un rfl rfl ?_
    refine JL_guard_un rfl rfl ?_
    refine JL_guard_no rfl rfl ?_
    refine JL_pick_t rfl rfl ?_
    refine JL_done_up 53 [box _ _ [_, _]] [_, _, _] rfl rfl (by simp only [nrmF]; rfl) rfl rfl ?_
    refine JC_true rfl ?_
    refine JC_seq ?_
    refine JC_region ?_
    refine JL_callF' (Asks.cons (holds_of_mem (by repeat (first | with_reducible exact mm0 | refine mmS ?_))) Asks.nil) (awake38_con) rfl ca7 rfl ?_
    rintro _ _ ⟨rfl, rfl⟩
    refine JL_assign rfl ?_
    refine JL_done_up 53 [box _ _ [_, _]] [_, _, _] rfl rfl (by simp only [nrmF]; rfl) rfl rfl ?_
    refine JC_ret ?_
    refine JE_then_ret ?_
    refine JE_ret (vs := [_]) [] Tryz.results5 ⟨rfl, rfl⟩ ?_ ?_
    · exact ⟨rfl, rfl⟩
    · exact all_nil

end Go.Fw.K
