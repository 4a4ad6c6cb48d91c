/- Walks through functions of the given program: each meets its contract. (Printed by a program of this repo.) -/
import Derived.Test.YtjdojhhngganeaaGreatDoorD7
import Derived.Test.YtjdojhhngganeaaGreatDoorX1
import Derived.Test.YtjdojhhngganeaaGreatDoorDgT
import Derived.Test.YtjdojhhngganeaaGreatDoorProg
namespace Go.Fw.D8
open Go Go.RowKit Go.Proofs Go.Nat9 Go.Fw
attribute [local irreducible] JC JL JE
theorem ca12 : callable Tryz.prog 12 = true := by kernel_rfl
theorem ca14 : callable Tryz.prog 14 = true := by kernel_rfl
theorem ca18 : callable Tryz.prog 18 = true := by kernel_rfl
theorem ca21 : callable Tryz.prog 21 = true := by kernel_rfl
theorem ca39 : callable Tryz.prog 39 = true := by kernel_rfl
theorem sl22 : slOf Tryz.prog 22 = some (53, 2, 16, [.int .i64 0, .int .i64 0]) := by kernel_rfl
theorem st44 : stOf Tryz.prog 44 = some ([(0, 1), (1, 1)], [.int .i64 0, .int .i64 0]) := by kernel_rfl
theorem st53 : stOf Tryz.prog 53 = some ([(0, 1), (1, 1)], [.int .i64 0, .int .i64 0]) := by kernel_rfl
theorem ty36 : tyOf Tryz.prog 36 = some (true, 3) := by kernel_rfl
theorem ty44 : tyOf Tryz.prog 44 = some (true, 2) := by kernel_rfl
theorem z36 : zeroOf Tryz.prog 36 = some [.bool false, .slice none 0 0, .slice none 0 0] := by kernel_rfl
theorem z44 : zeroOf Tryz.prog 44 = some [.int .i64 0, .int .i64 0] := by kernel_rfl
end Go.Fw.D8
namespace Go.Fw.K
open Go Go.RowKit Go.Proofs Go.Nat9 Go.Fw Go.Fw.D8
attribute [local irreducible] JC JL JE

set_option maxHeartbeats 1000000 in
theorem awake24_con  :
    ConF Tryz.prog 10 [] []
      (fun v φo => v = .bool (true) ∧ φo = []) := by
  refine ConF_of Tryz.func10 rfl 52 _ rfl rfl ?_; intro w0; refine JC_norm ⟨52, [], [_, _, _, _, _, _, _, _, _, _, _, _, _, _, _, _, _, _, _, _, _, _, _, _, _, _, _, _, _, _, _, _, _, _, _, _, _, _, _, _, _, _, _, _, _, _, _, _, _, _, _, _]⟩ [] [] rfl rfl rfl ?_; refine JC_sr ?_; refine JL_assign rfl ?_; refine JL_du 52 [] [] ?_; refine JC_sr ?_; refine JL_build (cs := [_, _]) [(0, [_]), (1, [_])] st53 ⟨⟨rfl, _, rfl, rfl⟩, ⟨rfl, _, rfl, rfl⟩, rfl⟩ rfl ?_; refine JL_buildN (cs0 := [.int .i64 0, .int .i64 0]) (cs := [_, _]) [(0, [_, _])] sl22 (by kernel_rfl) ⟨⟨rfl, _, rfl, rfl⟩, rfl⟩ rfl rfl rfl rfl (fun g10 => ?_); refine JL_norm _ [osl _ _ _ _ _ (pcells [((2 : Int), (0 : Int))])] [] rfl rfl rfl ?_; refine JL_assign rfl ?_; refine JL_du 52 [osl _ _ _ _ _ _] [] ?_; refine JC_sr ?_; refine JL_m ?_; refine JL_callF' (Asks.cons ((holds_of_own 0 rfl)) Asks.nil) (shared_con (n := 3) (l := [((2 : Int), (0 : Int))]) (by decide)) rfl ca12 ⟨rfl, rfl, rfl⟩ ?_; rintro _ _ ⟨ad13, c13, rfl, hc13, rfl⟩
  rw [show shrR 3 [((2 : Int), (0 : Int))] = [((2 : Int), (0 : Int))] from by decide +kernel, show seqE 3 [((2 : Int), (0 : Int))] = 0 from by decide +kernel]; refine JL_m ?_; refine JL_extract rfl rfl ?_; refine JL_extract rfl rfl ?_; refine JL_assign rfl ?_; refine JL_assign rfl ?_; refine JL_du 52 [osl _ _ _ _ _ _] [_] ?_; refine JC_sr ?_; refine JL_m ?_; refine JL_callF' (Asks.cons (by first | exact holds_of_mem am | (exact holds_of_own 0 rfl)) Asks.nil) (share_con (n := 3) (l := [((2 : Int), (0 : Int))]) (a := 0) (b := 1) (by decide) (by decide)) rfl ca14 ⟨rfl, rfl, rfl, rfl, rfl⟩ ?_; rintro _ _ ⟨ad18, cp18, be18, ce18, rfl, rfl⟩; rw [show shO 3 [((2 : Int), (0 : Int))] 0 1 = some (ofq 1 3) from by decide +kernel, show shE 3 [((2 : Int), (0 : Int))] 0 1 = 0 from by decide +kernel]; refine JL_m ?_; refine JL_extract rfl rfl ?_; refine JL_extract rfl rfl ?_; refine JL_alloc z36 (fun b4 => ?_); refine JL_store (vs := [_, _, _]) 1 ty36 rfl rfl rfl (AllOne.cons rfl (AllOne.cons rfl (AllOne.cons rfl AllOne.nil))) rfl (Nat.le_of_ble_eq_true rfl) ?_; refine JL_assign rfl ?_; refine JL_du 52 [osl _ _ _ _ _ _, box _ _ [_, _, _]] [_, _, _] ?_
  refine JC_sr ?_; refine JL_m ?_; refine JL_callF' (Asks.cons (by first | exact holds_of_mem am | (exact holds_of_own 0 rfl)) Asks.nil) (balanced_con (n := 3) (l := [((2 : Int), (0 : Int))]) (by decide) (by decide)) rfl ca21 ⟨rfl, rfl, rfl⟩ ?_; rintro _ _ ⟨ad23, c23, be23, e23, rfl, rfl⟩; rw [show balP 3 [((2 : Int), (0 : Int))] = ((0 : Int), (1 : Int)) from by decide +kernel, show balE 3 [((2 : Int), (0 : Int))] = 0 from by decide +kernel]; refine JL_m ?_; refine JL_extract rfl rfl ?_; refine JL_extract rfl rfl ?_; refine JL_extract rfl rfl ?_; refine JL_alloc z44 (fun b6 => ?_); refine JL_alloc z36 (fun b7 => ?_); refine JL_store (vs := [_, _]) 2 ty44 rfl rfl rfl (AllOne.cons rfl (AllOne.cons rfl AllOne.nil)) rfl (Nat.le_of_ble_eq_true rfl) ?_; refine JL_store (vs := [_, _, _]) 3 ty36 rfl rfl rfl (AllOne.cons rfl (AllOne.cons rfl (AllOne.cons rfl AllOne.nil))) rfl (Nat.le_of_ble_eq_true rfl) ?_; refine JL_assign rfl ?_; refine JL_du 52 [osl _ _ _ _ _ _, box _ _ [_, _, _], box _ _ [_, _], box _ _ [_, _, _]] [_, _, _, _, _] ?_; refine JC_sr ?_; refine JL_m ?_; refine JL_eql rfl rfl ?_; rw [decide_eq_true rfl]
  refine JL_m ?_; refine JL_gy ?_; refine JL_m ?_; refine JL_gy ?_; refine JL_m ?_; refine JL_gy ?_; refine JL_callF' (Asks.cons (by first | exact holds_of_mem am | (exact holds_of_own 0 rfl)) (Asks.cons (by first | exact holds_of_mem am | (exact holds_of_own 0 rfl)) Asks.nil)) (barcs_con (l := [((2 : Int), (0 : Int))]) (by decide)) rfl ca18 ⟨rfl, rfl, rfl⟩ ?_; rintro _ _ ⟨rfl, rfl⟩; refine JL_pick_t rfl rfl ?_; refine JL_m ?_; refine JL_gy ?_; refine JL_m ?_; refine JL_gy ?_; refine JL_eql rfl rfl ?_; rw [decide_eq_true rfl]; refine JL_pick_t rfl rfl ?_; refine JL_m ?_; refine JL_gy ?_; refine JL_loadA (vs := [_, _, _]) 1 ty36 rfl rfl ⟨rfl, rfl, rfl, trivial⟩ ?_; refine JL_gy ?_
  refine JL_callF' (Asks.cons (by first | exact holds_of_mem am | (exact holds_of_own 0 rfl)) (Asks.cons (by first | exact holds_of_mem am | (exact holds_of_own 0 rfl)) Asks.nil)) (ftext_con (FIn.of (o := some (ofq 1 3)) ((qs_small (by decide +kernel) (by decide +kernel)).mono (by decide))) (by decide +kernel) (s := ⟨#[49]⟩) (t := ⟨#[51]⟩) (by rw [show (fval (some (ofq 1 3))).num.natAbs = 1 from by decide +kernel]; exact txtAt1) (by rw [show (fval (some (ofq 1 3))).den = 3 from by decide +kernel]; exact txtAt3) false (by decide +kernel)) rfl ca39 ⟨rfl, rfl⟩ ?_; rintro _ _ ⟨rfl, rfl⟩; refine JL_gy ?_; refine JL_eqlS rfl rfl ?_; refine JL_splitV (fun h41 => ?_) (fun h41 => ?_)
  · refine JL_pick_t rfl rfl ?_; refine JL_m ?_; refine JL_gy ?_; refine JL_m ?_; refine JL_gy ?_; refine JL_eql rfl rfl ?_; rw [decide_eq_true rfl]; refine JL_pick_t rfl rfl ?_; refine JL_m ?_; refine JL_gy ?_; refine JL_loadA (vs := [_, _]) 2 ty44 rfl rfl ⟨rfl, rfl, trivial⟩ ?_; refine JL_gy ?_; refine JL_build (cs := [_, _]) [(0, [_]), (1, [_])] st44 ⟨⟨rfl, _, rfl, rfl⟩, ⟨rfl, _, rfl, rfl⟩, rfl⟩ rfl ?_; refine JL_gy ?_; refine JL_eqlP (p := ((0 : Int), (1 : Int))) (q := ((0 : Int), (1 : Int))) eqPair rfl rfl ?_; rw [decide_eq_true rfl]; refine JL_pick_t rfl rfl ?_; refine JL_assign rfl ?_; refine JL_du 52 [osl _ _ _ _ _ _, box _ _ [_, _, _], box _ _ [_, _], box _ _ [_, _, _]] [_, _, _, _, _] ?_; refine JC_ret ?_; refine JE_ret (vs := [_]) [] Tryz.results10 ⟨rfl, rfl⟩ ?_ ?_
    · exact ⟨rfl, rfl⟩
    · exact all_nil
  · rw [show (bif false then (⟨#[49]⟩ : ByteArray) else ⟨#[49]⟩ ++ (⟨#[47]⟩ ++ ⟨#[51]⟩)) = ⟨#[49, 47, 51]⟩ from rfl] at h41; simp at h41

end Go.Fw.K
