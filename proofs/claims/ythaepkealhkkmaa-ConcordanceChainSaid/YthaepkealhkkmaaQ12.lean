/- Walks through functions of the given program: each meets its contract. (Printed by a program of this repo.) -/
import Derived.Test.YthaepkealhkkmaaQ11
import Derived.Test.YthaepkealhkkmaaProg
namespace Go.Fw.Q12
open Go Go.RowKit Go.Proofs Go.Nat9 Go.Fw
attribute [local irreducible] JC JL JE
theorem ca12 : callable Try.prog 12 = true := by kernel_rfl
theorem ca14 : callable Try.prog 14 = true := by kernel_rfl
theorem ca16 : callable Try.prog 16 = true := by kernel_rfl
theorem ca18 : callable Try.prog 18 = true := by kernel_rfl
theorem ca20 : callable Try.prog 20 = true := by kernel_rfl
theorem ca21 : callable Try.prog 21 = true := by kernel_rfl
theorem ca22 : callable Try.prog 22 = true := by kernel_rfl
theorem ca24 : callable Try.prog 24 = true := by kernel_rfl
theorem ca26 : callable Try.prog 26 = true := by kernel_rfl
theorem ca28 : callable Try.prog 28 = true := by kernel_rfl
theorem ca31 : callable Try.prog 31 = true := by kernel_rfl
theorem sl22 : slOf Try.prog 22 = some (51, 2, 16, [.int .i64 0, .int .i64 0]) := by kernel_rfl
theorem sl28 : slOf Try.prog 28 = some (3, 1, 8, [.int .i64 0]) := by kernel_rfl
theorem sl39 : slOf Try.prog 39 = some (48, 2, 16, [.int .i64 0, .int .i64 0]) := by kernel_rfl
theorem st41 : stOf Try.prog 41 = some ([(0, 1), (1, 1)], [.slice none 0 0, .slice none 0 0]) := by kernel_rfl
theorem st48 : stOf Try.prog 48 = some ([(0, 1), (1, 1)], [.int .i64 0, .int .i64 0]) := by kernel_rfl
theorem st51 : stOf Try.prog 51 = some ([(0, 1), (1, 1)], [.int .i64 0, .int .i64 0]) := by kernel_rfl
end Go.Fw.Q12
namespace Go.Fw.K
open Go Go.RowKit Go.Proofs Go.Nat9 Go.Fw Go.Fw.Q12
attribute [local irreducible] JC JL JE

theorem srtI_one (x : Int) : srtI [x] = [x] := List.mergeSort_singleton x
theorem ed_one (x y : Int) (hx : 1 ≤ x ∧ x ≤ 9999) (hy : 1 ≤ y ∧ y ≤ 999) : edC [(x, y)] [] := by
  have h : ∀ (z m : Int), 1 ≤ z → z ≤ m → ascC [z] m := fun z m h1 h2 => ⟨upC_iff.2 ⟨List.pairwise_singleton _ _, fun w hw => by obtain rfl := List.mem_singleton.1 hw; exact ⟨h1, h2⟩⟩, (by show 1 ≤ 64; decide)⟩
  refine ⟨h x 9999 hx.1 hx.2, ?_, ⟨fun i hi => absurd hi (Nat.not_lt_zero _), by decide⟩, fun w hw => by simp at hw⟩
  show ascC (srtI [y]) 999
  rw [srtI_one]; exact h y 999 hy.1 hy.2
theorem of_awake : ofR [(7, 3)] [] [(7, 5)] [] = [(3, 5)] ∧ ofE [(7, 3)] [] [(7, 5)] [] = 0 := by
  have h : edC [(7, 3)] [] ∧ edC [(7, 5)] [] := ⟨ed_one 7 3 (by decide) (by decide), ed_one 7 5 (by decide) (by decide)⟩
  rw [(of_ok h).1, (of_ok h).2]
  exact ⟨by decide +kernel, rfl⟩


set_option maxHeartbeats 4000000 in
set_option maxRecDepth 20000 in
theorem awake48_con  :
    ConF Try.prog 10 [] []
      (fun v φo => v = .bool true ∧ φo = []) := by
  refine ConF_of Try.func10 rfl 144 _ rfl rfl ?_
  intro w0
  refine JC_norm ⟨144, [], [_, _, _, _, _, _, _, _, _, _, _, _, _, _, _, _, _, _, _, _, _, _, _, _, _, _, _, _, _, _, _, _, _, _, _, _, _, _, _, _, _, _, _, _, _, _, _, _, _, _, _, _, _, _, _, _, _, _, _, _, _, _, _, _, _, _, _, _, _, _, _, _, _, _, _, _, _, _, _, _, _, _, _, _, _, _, _, _, _, _, _, _, _, _, _, _, _, _, _, _, _, _, _, _, _, _, _, _, _, _, _, _, _, _, _, _, _, _, _, _, _, _, _, _, _, _, _, _, _, _, _, _, _, _, _, _, _, _, _, _, _, _, _, _]⟩ [] [] rfl rfl rfl ?_
  refine JC_seq ?_
  refine JC_region ?_
  refine JL_assign rfl ?_
  refine JL_done_up 144 [] [] rfl rfl (by simp only [nrmF]; rfl) rfl rfl ?_
  refine JC_seq ?_
  refine JC_region ?_
  refine JL_build (cs := [_, _]) [(0, [_]), (1, [_])] st51 ⟨⟨rfl, _, rfl, rfl⟩, ⟨rfl, _, rfl, rfl⟩, rfl⟩ rfl ?_
  refine JL_build (cs := [_, _]) [(0, [_]), (1, [_])] st51 ⟨⟨rfl, _, rfl, rfl⟩, ⟨rfl, _, rfl, rfl⟩, rfl⟩ rfl ?_
  refine JL_buildN (cs0 := [.int .i64 0, .int .i64 0, .int .i64 0, .int .i64 0]) (cs := [_, _, _, _]) [(0, [_, _]), (1, [_, _])] sl22 (by kernel_rfl) ⟨⟨rfl, _, rfl, rfl⟩, ⟨rfl, _, rfl, rfl⟩, rfl⟩ rfl rfl rfl rfl (fun g18 => ?_)
  refine JL_norm _ [osl _ _ _ _ _ (pcells [((1 : Int), (4 : Int)), (2, 5)])] [] rfl rfl rfl ?_
  refine JL_build (cs := [_, _]) [(0, [_]), (1, [_])] st51 ⟨⟨rfl, _, rfl, rfl⟩, ⟨rfl, _, rfl, rfl⟩, rfl⟩ rfl ?_
  refine JL_build (cs := [_, _]) [(0, [_]), (1, [_])] st51 ⟨⟨rfl, _, rfl, rfl⟩, ⟨rfl, _, rfl, rfl⟩, rfl⟩ rfl ?_
  refine JL_build (cs := [_, _]) [(0, [_]), (1, [_])] st51 ⟨⟨rfl, _, rfl, rfl⟩, ⟨rfl, _, rfl, rfl⟩, rfl⟩ rfl ?_
  refine JL_buildN (cs0 := [.int .i64 0, .int .i64 0, .int .i64 0, .int .i64 0, .int .i64 0, .int .i64 0]) (cs := [_, _, _, _, _, _]) [(0, [_, _]), (1, [_, _]), (2, [_, _])] sl22 (by kernel_rfl) ⟨⟨rfl, _, rfl, rfl⟩, ⟨rfl, _, rfl, rfl⟩, ⟨rfl, _, rfl, rfl⟩, rfl⟩ rfl rfl rfl rfl (fun g22 => ?_)
  refine JL_norm _ [osl _ _ _ _ _ _, osl _ _ _ _ _ (pcells [((4 : Int), (9 : Int)), (5, 9), (6, 1)])] [] rfl rfl rfl ?_
  refine JL_callF' (Asks.cons (by first | (exact holds_of_own 0 rfl) | (exact holds_of_own 1 rfl)) (Asks.cons (by first | (exact holds_of_own 0 rfl) | (exact holds_of_own 1 rfl)) Asks.nil)) (compose_con (l := [((1 : Int), (4 : Int)), (2, 5)]) (m := [((4 : Int), (9 : Int)), (5, 9), (6, 1)]) (by decide) (by decide)) rfl ca26 ⟨rfl, rfl, rfl⟩ ?_
  rintro _ _ ⟨ad23, c23, rfl, hc23, rfl⟩
  rw [show bothR [((1 : Int), (4 : Int)), (2, 5)] [((4 : Int), (9 : Int)), (5, 9), (6, 1)] (cmpL [((1 : Int), (4 : Int)), (2, 5)] [((4 : Int), (9 : Int)), (5, 9), (6, 1)] ([((1 : Int), (4 : Int)), (2, 5)]).length) = [((1 : Int), (9 : Int)), (2, 9)] from by decide +kernel, show bothE [((1 : Int), (4 : Int)), (2, 5)] [((4 : Int), (9 : Int)), (5, 9), (6, 1)] (cmpL [((1 : Int), (4 : Int)), (2, 5)] [((4 : Int), (9 : Int)), (5, 9), (6, 1)] ([((1 : Int), (4 : Int)), (2, 5)]).length) = 0 from by decide +kernel]
  refine JL_move rfl ?_
  refine JL_extract rfl rfl ?_
  refine JL_extract rfl rfl ?_
  refine JL_assign rfl ?_
  refine JL_assign rfl ?_
  refine JL_done_up 144 [osl _ _ _ _ _ _, osl _ _ _ _ _ _] [_] rfl rfl (by simp only [nrmF]; rfl) rfl rfl ?_
  refine JC_seq ?_
  refine JC_region ?_
  refine JL_move rfl ?_
  refine JL_callF' (Asks.cons (by first | exact holds_of_mem (by repeat (first | with_reducible exact mm0 | refine mmS ?_)) | (exact holds_of_own 0 rfl) | (exact holds_of_own 1 rfl)) Asks.nil) (lum_con (l := [((1 : Int), (9 : Int)), (2, 9)]) (by decide)) rfl ca16 ⟨rfl, rfl⟩ ?_
  rintro _ _ ⟨ad28, c28, rfl, hc28, rfl⟩
  rw [show lumR [((1 : Int), (9 : Int)), (2, 9)] = [9] from by decide +kernel, show valE [((1 : Int), (9 : Int)), (2, 9)] = 0 from by decide +kernel]
  refine JL_move rfl ?_
  refine JL_extract rfl rfl ?_
  refine JL_extract rfl rfl ?_
  refine JL_assign rfl ?_
  refine JL_assign rfl ?_
  refine JL_done_up 144 [osl _ _ _ _ _ _, osl _ _ _ _ _ _] [_, _] rfl rfl (by simp only [nrmF]; rfl) rfl rfl ?_
  refine JC_seq ?_
  refine JC_region ?_
  refine JL_move rfl ?_
  refine JL_callF' (Asks.cons (by first | exact holds_of_mem (by repeat (first | with_reducible exact mm0 | refine mmS ?_)) | (exact holds_of_own 0 rfl) | (exact holds_of_own 1 rfl)) Asks.nil) (spl_con (l := [((1 : Int), (9 : Int)), (2, 9)]) (by decide)) rfl ca14 ⟨rfl, rfl⟩ ?_
  rintro _ _ ⟨ad33, c33, rfl, hc33, rfl⟩
  rw [show splR [((1 : Int), (9 : Int)), (2, 9)] = [] from by decide +kernel, show valE [((1 : Int), (9 : Int)), (2, 9)] = 0 from by decide +kernel]
  refine JL_move rfl ?_
  refine JL_extract rfl rfl ?_
  refine JL_extract rfl rfl ?_
  refine JL_assign rfl ?_
  refine JL_assign rfl ?_
  refine JL_done_up 144 [osl _ _ _ _ _ _, osl _ _ _ _ _ _] [_, _, _] rfl rfl (by simp only [nrmF]; rfl) rfl rfl ?_
  refine JC_seq ?_
  refine JC_region ?_
  refine JL_move rfl ?_
  refine JL_callF' (Asks.cons (by first | exact holds_of_mem (by repeat (first | with_reducible exact mm0 | refine mmS ?_)) | (exact holds_of_own 0 rfl) | (exact holds_of_own 1 rfl)) Asks.nil) (inv_con (l := [((1 : Int), (9 : Int)), (2, 9)]) (by decide)) rfl ca12 ⟨rfl, rfl⟩ ?_
  rintro _ _ ⟨ad38, c38, rfl, hc38, rfl⟩
  rw [show invR [((1 : Int), (9 : Int)), (2, 9)] = [((9 : Int), (1 : Int)), (9, 2)] from by decide +kernel, show valE [((1 : Int), (9 : Int)), (2, 9)] = 0 from by decide +kernel]
  refine JL_move rfl ?_
  refine JL_extract rfl rfl ?_
  refine JL_extract rfl rfl ?_
  refine JL_assign rfl ?_
  refine JL_assign rfl ?_
  refine JL_done_up 144 [osl _ _ _ _ _ _, osl _ _ _ _ _ _] [_, _, _, _] rfl rfl (by simp only [nrmF]; rfl) rfl rfl ?_
  refine JC_seq ?_
  refine JC_region ?_
  refine JL_move rfl ?_
  refine JL_callF' (Asks.cons (by first | exact holds_of_mem (by repeat (first | with_reducible exact mm0 | refine mmS ?_)) | (exact holds_of_own 0 rfl) | (exact holds_of_own 1 rfl)) Asks.nil) (look_con (l := [((9 : Int), (1 : Int)), (9, 2)]) (n := 9) (by decide)) rfl ca18 ⟨rfl, rfl, rfl⟩ ?_
  rintro _ _ ⟨ad43, c43, rfl, hc43, rfl⟩
  rw [show lukR [((9 : Int), (1 : Int)), (9, 2)] 9 = [1, 2] from by decide +kernel, show valE [((9 : Int), (1 : Int)), (9, 2)] = 0 from by decide +kernel]
  refine JL_move rfl ?_
  refine JL_extract rfl rfl ?_
  refine JL_extract rfl rfl ?_
  refine JL_assign rfl ?_
  refine JL_assign rfl ?_
  refine JL_done_up 144 [osl _ _ _ _ _ _, osl _ _ _ _ _ _] [_, _, _, _, _] rfl rfl (by simp only [nrmF]; rfl) rfl rfl ?_
  refine JC_seq ?_
  refine JC_addView (f := true) (p := vCells none (i64s [])) (fun _ _ => nilI) ?_
  refine JC_region ?_
  refine JL_build (cs := [_, _]) [(0, [_]), (1, [_])] st48 ⟨⟨rfl, _, rfl, rfl⟩, ⟨rfl, _, rfl, rfl⟩, rfl⟩ rfl ?_
  refine JL_buildN (cs0 := [.int .i64 0, .int .i64 0]) (cs := [_, _]) [(0, [_, _])] sl39 (by kernel_rfl) ⟨⟨rfl, _, rfl, rfl⟩, rfl⟩ rfl rfl rfl rfl (fun g48 => ?_)
  refine JL_norm _ [osl _ _ _ _ _ _, osl _ _ _ _ _ _, osl _ _ _ _ _ (pcells [((7 : Int), (3 : Int))])] [_, _, _, _, _, _] rfl rfl rfl ?_
  refine JL_build (cs := [_, _]) [(0, [_])] st41 ⟨⟨rfl, _, rfl, rfl⟩, rfl⟩ rfl ?_
  refine JL_build (cs := [_, _]) [(0, [_]), (1, [_])] st48 ⟨⟨rfl, _, rfl, rfl⟩, ⟨rfl, _, rfl, rfl⟩, rfl⟩ rfl ?_
  refine JL_buildN (cs0 := [.int .i64 0, .int .i64 0]) (cs := [_, _]) [(0, [_, _])] sl39 (by kernel_rfl) ⟨⟨rfl, _, rfl, rfl⟩, rfl⟩ rfl rfl rfl rfl (fun g51 => ?_)
  refine JL_norm _ [osl _ _ _ _ _ _, osl _ _ _ _ _ _, osl _ _ _ _ _ _, osl _ _ _ _ _ (pcells [((7 : Int), (5 : Int))])] [_, _, _, _, _, _] rfl rfl rfl ?_
  refine JL_build (cs := [_, _]) [(0, [_])] st41 ⟨⟨rfl, _, rfl, rfl⟩, rfl⟩ rfl ?_
  refine JL_callF' (Asks.cons (by first | exact holds_of_mem (by repeat (first | with_reducible exact mm0 | refine mmS ?_)) | (exact holds_of_own 0 rfl) | (exact holds_of_own 1 rfl) | (exact holds_of_own 2 rfl) | (exact holds_of_own 3 rfl)) (Asks.cons (by first | exact holds_of_mem (by repeat (first | with_reducible exact mm0 | refine mmS ?_)) | (exact holds_of_own 0 rfl) | (exact holds_of_own 1 rfl) | (exact holds_of_own 2 rfl) | (exact holds_of_own 3 rfl)) (Asks.cons (by first | exact holds_of_mem (by repeat (first | with_reducible exact mm0 | refine mmS ?_)) | (exact holds_of_own 0 rfl) | (exact holds_of_own 1 rfl) | (exact holds_of_own 2 rfl) | (exact holds_of_own 3 rfl)) (Asks.cons (by first | exact holds_of_mem (by repeat (first | with_reducible exact mm0 | refine mmS ?_)) | (exact holds_of_own 0 rfl) | (exact holds_of_own 1 rfl) | (exact holds_of_own 2 rfl) | (exact holds_of_own 3 rfl)) Asks.nil)))) (of_con (E := [(7, 3)]) (F := [(7, 5)]) (R := []) (S := []) (by decide) (by decide) (by decide) (by decide)) rfl ca31 ⟨rfl, rfl, rfl⟩ ?_
  rintro _ _ ⟨ad53, c53, rfl, hc53, rfl⟩
  rw [of_awake.1, of_awake.2]
  refine JL_move rfl ?_
  refine JL_extract rfl rfl ?_
  refine JL_extract rfl rfl ?_
  refine JL_assign rfl ?_
  refine JL_assign rfl ?_
  refine JL_done_up 144 [osl _ _ _ _ _ _, osl _ _ _ _ _ _, osl _ _ _ _ _ _, osl _ _ _ _ _ _] [_, _, _, _, _, _, _] rfl rfl (by simp only [nrmF]; rfl) rfl rfl ?_
  refine JC_seq ?_
  refine JC_region ?_
  refine JL_build (cs := [_, _]) [(0, [_]), (1, [_])] st51 ⟨⟨rfl, _, rfl, rfl⟩, ⟨rfl, _, rfl, rfl⟩, rfl⟩ rfl ?_
  refine JL_buildN (cs0 := [.int .i64 0, .int .i64 0]) (cs := [_, _]) [(0, [_, _])] sl22 (by kernel_rfl) ⟨⟨rfl, _, rfl, rfl⟩, rfl⟩ rfl rfl rfl rfl (fun g58 => ?_)
  refine JL_norm _ [osl _ _ _ _ _ _, osl _ _ _ _ _ _, osl _ _ _ _ _ _, osl _ _ _ _ _ _, osl _ _ _ _ _ (pcells [((1 : Int), (4 : Int))])] [_, _, _, _, _, _, _] rfl rfl rfl ?_
  refine JL_build (cs := [_, _]) [(0, [_]), (1, [_])] st51 ⟨⟨rfl, _, rfl, rfl⟩, ⟨rfl, _, rfl, rfl⟩, rfl⟩ rfl ?_
  refine JL_build (cs := [_, _]) [(0, [_]), (1, [_])] st51 ⟨⟨rfl, _, rfl, rfl⟩, ⟨rfl, _, rfl, rfl⟩, rfl⟩ rfl ?_
  refine JL_buildN (cs0 := [.int .i64 0, .int .i64 0, .int .i64 0, .int .i64 0]) (cs := [_, _, _, _]) [(0, [_, _]), (1, [_, _])] sl22 (by kernel_rfl) ⟨⟨rfl, _, rfl, rfl⟩, ⟨rfl, _, rfl, rfl⟩, rfl⟩ rfl rfl rfl rfl (fun g61 => ?_)
  refine JL_norm _ [osl _ _ _ _ _ _, osl _ _ _ _ _ _, osl _ _ _ _ _ _, osl _ _ _ _ _ _, osl _ _ _ _ _ _, osl _ _ _ _ _ (pcells [((1 : Int), (4 : Int)), (2, 5)])] [_, _, _, _, _, _, _] rfl rfl rfl ?_
  refine JL_give 4 rfl ?_
  refine JL_norm _ [osl _ _ _ _ _ _, osl _ _ _ _ _ _, osl _ _ _ _ _ _, osl _ _ _ _ _ _, osl _ _ _ _ _ _] [_, _, _, _, _, _, _, _] rfl rfl rfl ?_
  refine JL_give 4 rfl ?_
  refine JL_norm _ [osl _ _ _ _ _ _, osl _ _ _ _ _ _, osl _ _ _ _ _ _, osl _ _ _ _ _ _] [_, _, _, _, _, _, _, _, _] rfl rfl rfl ?_
  refine JL_callA' true (AsksA.cons (holdsA_of_mem (by repeat (first | with_reducible exact mm0 | refine mmS ?_))) (AsksA.cons (holdsA_of_mem (by repeat (first | with_reducible exact mm0 | refine mmS ?_))) AsksA.nil)) (union_con (l := [((1 : Int), (4 : Int))]) (m := [((1 : Int), (4 : Int)), (2, 5)]) (by decide) (by decide)) rfl ca28 ⟨rfl, rfl, rfl⟩ ?_
  rintro _ _ ⟨ad62, c62, rfl, hc62, rfl⟩
  rw [show bothR [((1 : Int), (4 : Int))] [((1 : Int), (4 : Int)), (2, 5)] ([((1 : Int), (4 : Int))] ++ [((1 : Int), (4 : Int)), (2, 5)]) = [((1 : Int), (4 : Int)), (2, 5)] from by decide +kernel, show bothE [((1 : Int), (4 : Int))] [((1 : Int), (4 : Int)), (2, 5)] ([((1 : Int), (4 : Int))] ++ [((1 : Int), (4 : Int)), (2, 5)]) = 0 from by decide +kernel]
  refine JL_move rfl ?_
  refine JL_extract rfl rfl ?_
  refine JL_extract rfl rfl ?_
  refine JL_assign rfl ?_
  refine JL_assign rfl ?_
  refine JL_done_up 144 [osl _ _ _ _ _ _, osl _ _ _ _ _ _, osl _ _ _ _ _ _, osl _ _ _ _ _ _] [_, _, _, _, _, _, _, _, _, _] rfl rfl (by simp only [nrmF]; rfl) rfl rfl ?_
  refine JC_seq ?_
  refine JC_region ?_
  refine JL_move rfl ?_
  refine JL_eql rfl rfl ?_
  rw [decide_eq_true rfl]
  refine JL_move rfl ?_
  refine JL_guard_yes rfl rfl ?_
  refine JL_move rfl ?_
  refine JL_guard_yes rfl rfl ?_
  refine JL_eql rfl rfl ?_
  rw [decide_eq_true rfl]
  refine JL_pick_t rfl rfl ?_
  refine JL_move rfl ?_
  refine JL_guard_yes rfl rfl ?_
  refine JL_move rfl ?_
  refine JL_guard_yes rfl rfl ?_
  refine JL_eql rfl rfl ?_
  rw [decide_eq_true rfl]
  refine JL_pick_t rfl rfl ?_
  refine JL_move rfl ?_
  refine JL_guard_yes rfl rfl ?_
  refine JL_move rfl ?_
  refine JL_guard_yes rfl rfl ?_
  refine JL_eql rfl rfl ?_
  rw [decide_eq_true rfl]
  refine JL_pick_t rfl rfl ?_
  refine JL_move rfl ?_
  refine JL_guard_yes rfl rfl ?_
  refine JL_move rfl ?_
  refine JL_guard_yes rfl rfl ?_
  refine JL_eql rfl rfl ?_
  rw [decide_eq_true rfl]
  refine JL_pick_t rfl rfl ?_
  refine JL_move rfl ?_
  refine JL_guard_yes rfl rfl ?_
  refine JL_move rfl ?_
  refine JL_guard_yes rfl rfl ?_
  refine JL_eql rfl rfl ?_
  rw [decide_eq_true rfl]
  refine JL_pick_t rfl rfl ?_
  refine JL_move rfl ?_
  refine JL_guard_yes rfl rfl ?_
  refine JL_move rfl ?_
  refine JL_guard_yes rfl rfl ?_
  refine JL_eql rfl rfl ?_
  rw [decide_eq_true rfl]
  refine JL_pick_t rfl rfl ?_
  refine JL_move rfl ?_
  refine JL_guard_yes rfl rfl ?_
  refine JL_move rfl ?_
  refine JL_guard_yes rfl rfl ?_
  refine JL_build (cs := [_, _]) [(0, [_]), (1, [_])] st51 ⟨⟨rfl, _, rfl, rfl⟩, ⟨rfl, _, rfl, rfl⟩, rfl⟩ rfl ?_
  refine JL_guard_yes rfl rfl ?_
  refine JL_build (cs := [_, _]) [(0, [_]), (1, [_])] st51 ⟨⟨rfl, _, rfl, rfl⟩, ⟨rfl, _, rfl, rfl⟩, rfl⟩ rfl ?_
  refine JL_guard_yes rfl rfl ?_
  refine JL_buildN (cs0 := [.int .i64 0, .int .i64 0, .int .i64 0, .int .i64 0]) (cs := [_, _, _, _]) [(0, [_, _]), (1, [_, _])] sl22 (by kernel_rfl) ⟨⟨rfl, _, rfl, rfl⟩, ⟨rfl, _, rfl, rfl⟩, rfl⟩ rfl rfl rfl rfl (fun g95 => ?_)
  refine JL_norm _ [osl _ _ _ _ _ _, osl _ _ _ _ _ _, osl _ _ _ _ _ _, osl _ _ _ _ _ _, osl _ _ _ _ _ (pcells [((1 : Int), (9 : Int)), (2, 9)])] [_, _, _, _, _, _, _, _, _, _] rfl rfl rfl ?_
  refine JL_guard_yes rfl rfl ?_
  refine JL_callF' (Asks.cons (by first | exact holds_of_mem (by repeat (first | with_reducible exact mm0 | refine mmS ?_)) | (exact holds_of_own 0 rfl) | (exact holds_of_own 1 rfl) | (exact holds_of_own 2 rfl) | (exact holds_of_own 3 rfl) | (exact holds_of_own 4 rfl)) (Asks.cons (by first | exact holds_of_mem (by repeat (first | with_reducible exact mm0 | refine mmS ?_)) | (exact holds_of_own 0 rfl) | (exact holds_of_own 1 rfl) | (exact holds_of_own 2 rfl) | (exact holds_of_own 3 rfl) | (exact holds_of_own 4 rfl)) Asks.nil)) (bpairs_con (l := [((1 : Int), (9 : Int)), (2, 9)]) (by decide)) rfl ca20 ⟨rfl, rfl, rfl⟩ ?_
  rintro _ _ ⟨rfl, rfl⟩
  refine JL_pick_t rfl rfl ?_
  refine JL_move rfl ?_
  refine JL_guard_yes rfl rfl ?_
  refine JL_move rfl ?_
  refine JL_guard_yes rfl rfl ?_
  refine JL_build1 sl28 rfl rfl (fun g100 => ?_)
  refine JL_norm _ [osl _ _ _ _ _ _, osl _ _ _ _ _ _, osl _ _ _ _ _ _, osl _ _ _ _ _ _, osl _ _ _ _ _ _, osl _ _ _ _ _ (i64s ([9]))] [_, _, _, _, _, _, _, _, _, _] rfl rfl rfl ?_
  refine JL_guard_yes rfl rfl ?_
  refine JL_callF' (Asks.cons (by first | exact holds_of_mem (by repeat (first | with_reducible exact mm0 | refine mmS ?_)) | (exact holds_of_own 0 rfl) | (exact holds_of_own 1 rfl) | (exact holds_of_own 2 rfl) | (exact holds_of_own 3 rfl) | (exact holds_of_own 4 rfl) | (exact holds_of_own 5 rfl)) (Asks.cons (by first | exact holds_of_mem (by repeat (first | with_reducible exact mm0 | refine mmS ?_)) | (exact holds_of_own 0 rfl) | (exact holds_of_own 1 rfl) | (exact holds_of_own 2 rfl) | (exact holds_of_own 3 rfl) | (exact holds_of_own 4 rfl) | (exact holds_of_own 5 rfl)) Asks.nil)) (bints_con (L := [9]) (by decide)) rfl ca21 ⟨rfl, rfl, rfl⟩ ?_
  rintro _ _ ⟨rfl, rfl⟩
  refine JL_pick_t rfl rfl ?_
  refine JL_move rfl ?_
  refine JL_guard_yes rfl rfl ?_
  refine JL_move rfl ?_
  refine JL_guard_yes rfl rfl ?_
  refine JL_len sl28 rfl ?_
  refine JL_guard_yes rfl rfl ?_
  refine JL_eql rfl rfl ?_
  rw [decide_eq_true (p := ((([] : List Int).length : Nat) : Int) = 0) rfl]
  refine JL_pick_t rfl rfl ?_
  refine JL_move rfl ?_
  refine JL_guard_yes rfl rfl ?_
  refine JL_move rfl ?_
  refine JL_guard_yes rfl rfl ?_
  refine JL_build (cs := [_, _]) [(0, [_]), (1, [_])] st51 ⟨⟨rfl, _, rfl, rfl⟩, ⟨rfl, _, rfl, rfl⟩, rfl⟩ rfl ?_
  refine JL_guard_yes rfl rfl ?_
  refine JL_build (cs := [_, _]) [(0, [_]), (1, [_])] st51 ⟨⟨rfl, _, rfl, rfl⟩, ⟨rfl, _, rfl, rfl⟩, rfl⟩ rfl ?_
  refine JL_guard_yes rfl rfl ?_
  refine JL_buildN (cs0 := [.int .i64 0, .int .i64 0, .int .i64 0, .int .i64 0]) (cs := [_, _, _, _]) [(0, [_, _]), (1, [_, _])] sl22 (by kernel_rfl) ⟨⟨rfl, _, rfl, rfl⟩, ⟨rfl, _, rfl, rfl⟩, rfl⟩ rfl rfl rfl rfl (fun g112 => ?_)
  refine JL_norm _ [osl _ _ _ _ _ _, osl _ _ _ _ _ _, osl _ _ _ _ _ _, osl _ _ _ _ _ _, osl _ _ _ _ _ _, osl _ _ _ _ _ _, osl _ _ _ _ _ (pcells [((9 : Int), (1 : Int)), (9, 2)])] [_, _, _, _, _, _, _, _, _, _] rfl rfl rfl ?_
  refine JL_guard_yes rfl rfl ?_
  refine JL_callF' (Asks.cons (by first | exact holds_of_mem (by repeat (first | with_reducible exact mm0 | refine mmS ?_)) | (exact holds_of_own 0 rfl) | (exact holds_of_own 1 rfl) | (exact holds_of_own 2 rfl) | (exact holds_of_own 3 rfl) | (exact holds_of_own 4 rfl) | (exact holds_of_own 5 rfl) | (exact holds_of_own 6 rfl)) (Asks.cons (by first | exact holds_of_mem (by repeat (first | with_reducible exact mm0 | refine mmS ?_)) | (exact holds_of_own 0 rfl) | (exact holds_of_own 1 rfl) | (exact holds_of_own 2 rfl) | (exact holds_of_own 3 rfl) | (exact holds_of_own 4 rfl) | (exact holds_of_own 5 rfl) | (exact holds_of_own 6 rfl)) Asks.nil)) (bpairs_con (l := [((9 : Int), (1 : Int)), (9, 2)]) (by decide)) rfl ca20 ⟨rfl, rfl, rfl⟩ ?_
  rintro _ _ ⟨rfl, rfl⟩
  refine JL_pick_t rfl rfl ?_
  refine JL_move rfl ?_
  refine JL_guard_yes rfl rfl ?_
  refine JL_move rfl ?_
  refine JL_guard_yes rfl rfl ?_
  refine JL_buildN (cs0 := [.int .i64 0, .int .i64 0]) (cs := [_, _]) [(0, [_]), (1, [_])] sl28 (by kernel_rfl) ⟨⟨rfl, _, rfl, rfl⟩, ⟨rfl, _, rfl, rfl⟩, rfl⟩ rfl rfl rfl rfl (fun g117 => ?_)
  refine JL_norm _ [osl _ _ _ _ _ _, osl _ _ _ _ _ _, osl _ _ _ _ _ _, osl _ _ _ _ _ _, osl _ _ _ _ _ _, osl _ _ _ _ _ _, osl _ _ _ _ _ _, osl _ _ _ _ _ (i64s ([1, 2]))] [_, _, _, _, _, _, _, _, _, _] rfl rfl rfl ?_
  refine JL_guard_yes rfl rfl ?_
  refine JL_callF' (Asks.cons (by first | exact holds_of_mem (by repeat (first | with_reducible exact mm0 | refine mmS ?_)) | (exact holds_of_own 0 rfl) | (exact holds_of_own 1 rfl) | (exact holds_of_own 2 rfl) | (exact holds_of_own 3 rfl) | (exact holds_of_own 4 rfl) | (exact holds_of_own 5 rfl) | (exact holds_of_own 6 rfl) | (exact holds_of_own 7 rfl)) (Asks.cons (by first | exact holds_of_mem (by repeat (first | with_reducible exact mm0 | refine mmS ?_)) | (exact holds_of_own 0 rfl) | (exact holds_of_own 1 rfl) | (exact holds_of_own 2 rfl) | (exact holds_of_own 3 rfl) | (exact holds_of_own 4 rfl) | (exact holds_of_own 5 rfl) | (exact holds_of_own 6 rfl) | (exact holds_of_own 7 rfl)) Asks.nil)) (bints_con (L := [1, 2]) (by decide)) rfl ca21 ⟨rfl, rfl, rfl⟩ ?_
  rintro _ _ ⟨rfl, rfl⟩
  refine JL_pick_t rfl rfl ?_
  refine JL_move rfl ?_
  refine JL_guard_yes rfl rfl ?_
  refine JL_move rfl ?_
  refine JL_guard_yes rfl rfl ?_
  refine JL_build (cs := [_, _]) [(0, [_]), (1, [_])] st51 ⟨⟨rfl, _, rfl, rfl⟩, ⟨rfl, _, rfl, rfl⟩, rfl⟩ rfl ?_
  refine JL_guard_yes rfl rfl ?_
  refine JL_buildN (cs0 := [.int .i64 0, .int .i64 0]) (cs := [_, _]) [(0, [_, _])] sl22 (by kernel_rfl) ⟨⟨rfl, _, rfl, rfl⟩, rfl⟩ rfl rfl rfl rfl (fun g123 => ?_)
  refine JL_norm _ [osl _ _ _ _ _ _, osl _ _ _ _ _ _, osl _ _ _ _ _ _, osl _ _ _ _ _ _, osl _ _ _ _ _ _, osl _ _ _ _ _ _, osl _ _ _ _ _ _, osl _ _ _ _ _ _, osl _ _ _ _ _ (pcells [((3 : Int), (5 : Int))])] [_, _, _, _, _, _, _, _, _, _] rfl rfl rfl ?_
  refine JL_guard_yes rfl rfl ?_
  refine JL_callF' (Asks.cons (by first | exact holds_of_mem (by repeat (first | with_reducible exact mm0 | refine mmS ?_)) | (exact holds_of_own 0 rfl) | (exact holds_of_own 1 rfl) | (exact holds_of_own 2 rfl) | (exact holds_of_own 3 rfl) | (exact holds_of_own 4 rfl) | (exact holds_of_own 5 rfl) | (exact holds_of_own 6 rfl) | (exact holds_of_own 7 rfl) | (exact holds_of_own 8 rfl)) (Asks.cons (by first | exact holds_of_mem (by repeat (first | with_reducible exact mm0 | refine mmS ?_)) | (exact holds_of_own 0 rfl) | (exact holds_of_own 1 rfl) | (exact holds_of_own 2 rfl) | (exact holds_of_own 3 rfl) | (exact holds_of_own 4 rfl) | (exact holds_of_own 5 rfl) | (exact holds_of_own 6 rfl) | (exact holds_of_own 7 rfl) | (exact holds_of_own 8 rfl)) Asks.nil)) (bpairs_con (l := [((3 : Int), (5 : Int))]) (by decide)) rfl ca20 ⟨rfl, rfl, rfl⟩ ?_
  rintro _ _ ⟨rfl, rfl⟩
  refine JL_pick_t rfl rfl ?_
  refine JL_move rfl ?_
  refine JL_guard_yes rfl rfl ?_
  refine JL_move rfl ?_
  refine JL_guard_yes rfl rfl ?_
  refine JL_len sl22 rfl ?_
  refine JL_guard_yes rfl rfl ?_
  refine JL_eql rfl rfl ?_
  rw [decide_eq_true (p := ((([((1 : Int), (4 : Int)), (2, 5)]).length : Nat) : Int) = 2) rfl]
  refine JL_pick_t rfl rfl ?_
  refine JL_move rfl ?_
  refine JL_guard_yes rfl rfl ?_
  refine JL_move rfl ?_
  refine JL_guard_yes rfl rfl ?_
  refine JL_callF' (Asks.cons (by first | exact holds_of_mem (by repeat (first | with_reducible exact mm0 | refine mmS ?_)) | (exact holds_of_own 0 rfl) | (exact holds_of_own 1 rfl) | (exact holds_of_own 2 rfl) | (exact holds_of_own 3 rfl) | (exact holds_of_own 4 rfl) | (exact holds_of_own 5 rfl) | (exact holds_of_own 6 rfl) | (exact holds_of_own 7 rfl) | (exact holds_of_own 8 rfl)) Asks.nil) (ex_con (l := [((1 : Int), (9 : Int)), (2, 9)]) (by decide)) rfl ca22 ⟨rfl, rfl⟩ ?_
  rintro _ _ ⟨rfl, rfl⟩
  rw [show exB [((1 : Int), (9 : Int)), (2, 9)] = false from by decide +kernel]
  refine JL_guard_yes rfl rfl ?_
  refine JL_not rfl ?_
  rw [Bool.not_false]
  refine JL_pick_t rfl rfl ?_
  refine JL_move rfl ?_
  refine JL_guard_yes rfl rfl ?_
  refine JL_move rfl ?_
  refine JL_guard_yes rfl rfl ?_
  refine JL_callF' (Asks.cons (by first | exact holds_of_mem (by repeat (first | with_reducible exact mm0 | refine mmS ?_)) | (exact holds_of_own 0 rfl) | (exact holds_of_own 1 rfl) | (exact holds_of_own 2 rfl) | (exact holds_of_own 3 rfl) | (exact holds_of_own 4 rfl) | (exact holds_of_own 5 rfl) | (exact holds_of_own 6 rfl) | (exact holds_of_own 7 rfl) | (exact holds_of_own 8 rfl)) Asks.nil) (ex_con (l := [((3 : Int), (5 : Int))]) (by decide)) rfl ca22 ⟨rfl, rfl⟩ ?_
  rintro _ _ ⟨rfl, rfl⟩
  rw [show exB [((3 : Int), (5 : Int))] = true from by decide +kernel]
  refine JL_pick_t rfl rfl ?_
  refine JL_move rfl ?_
  refine JL_guard_yes rfl rfl ?_
  refine JL_move rfl ?_
  refine JL_guard_yes rfl rfl ?_
  refine JL_callF' (Asks.cons (by first | exact holds_of_mem (by repeat (first | with_reducible exact mm0 | refine mmS ?_)) | (exact holds_of_own 0 rfl) | (exact holds_of_own 1 rfl) | (exact holds_of_own 2 rfl) | (exact holds_of_own 3 rfl) | (exact holds_of_own 4 rfl) | (exact holds_of_own 5 rfl) | (exact holds_of_own 6 rfl) | (exact holds_of_own 7 rfl) | (exact holds_of_own 8 rfl)) Asks.nil) (valid_con (l := [((1 : Int), (9 : Int)), (2, 9)]) (by decide)) rfl ca24 ⟨rfl, rfl⟩ ?_
  rintro _ _ ⟨rfl, rfl⟩
  rw [decide_eq_true (p := validC [((1 : Int), (9 : Int)), (2, 9)]) (by decide +kernel)]
  refine JL_pick_t rfl rfl ?_
  refine JL_assign rfl ?_
  refine JL_done_up 144 [osl _ _ _ _ _ _, osl _ _ _ _ _ _, osl _ _ _ _ _ _, osl _ _ _ _ _ _, osl _ _ _ _ _ _, osl _ _ _ _ _ _, osl _ _ _ _ _ _, osl _ _ _ _ _ _, osl _ _ _ _ _ _] [_, _, _, _, _, _, _, _, _, _] rfl rfl (by simp only [nrmF]; rfl) rfl rfl ?_
  refine JC_ret ?_
  refine JE_ret (vs := [_]) [] Try.results10 ⟨rfl, rfl⟩ ?_ ?_
  · exact ⟨rfl, rfl⟩
  · exact all_nil

end Go.Fw.K
