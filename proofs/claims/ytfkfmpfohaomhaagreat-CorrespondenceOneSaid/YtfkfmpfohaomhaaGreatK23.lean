/- Walks through functions of the given program: each meets its contract. (Printed by a program of this repo.) -/
import Derived.Test.YtfkfmpfohaomhaaGreatK13
import Derived.Test.YtfkfmpfohaomhaaGreatKA
import Derived.Test.YtfkfmpfohaomhaaGreatK18
import Derived.Test.YtfkfmpfohaomhaaGreatCoGL
import Derived.Test.YtfkfmpfohaomhaaGreatProg
namespace Go.Fw.K23
open Go Go.RowKit Go.Proofs Go.Nat9 Go.Fw
attribute [local irreducible] JC JL JE
theorem ca12 : callable Tryz.prog 12 = true := by kernel_rfl
theorem ca14 : callable Tryz.prog 14 = true := by kernel_rfl
theorem ca17 : callable Tryz.prog 17 = true := by kernel_rfl
theorem ca20 : callable Tryz.prog 20 = true := by kernel_rfl
theorem ca21 : callable Tryz.prog 21 = true := by kernel_rfl
theorem sl22 : slOf Tryz.prog 22 = some (53, 7, 56, [.int .i64 0, .int .i64 0, .int .i64 0, .int .i64 0, .int .i64 0, .int .i64 0, .int .i64 0]) := by kernel_rfl
theorem sl36 : slOf Tryz.prog 36 = some (3, 1, 8, [.int .i64 0]) := by kernel_rfl
theorem sl46 : slOf Tryz.prog 46 = some (57, 2, 16, [.int .i64 0, .int .i64 0]) := by kernel_rfl
theorem st53 : stOf Tryz.prog 53 = some ([(0, 1), (1, 1), (2, 1), (3, 1), (4, 1), (5, 1), (6, 1)], [.int .i64 0, .int .i64 0, .int .i64 0, .int .i64 0, .int .i64 0, .int .i64 0, .int .i64 0]) := by kernel_rfl
theorem st57 : stOf Tryz.prog 57 = some ([(0, 1), (1, 1)], [.int .i64 0, .int .i64 0]) := by kernel_rfl
theorem ty53 : tyOf Tryz.prog 53 = some (true, 7) := by kernel_rfl
theorem z53 : zeroOf Tryz.prog 53 = some [.int .i64 0, .int .i64 0, .int .i64 0, .int .i64 0, .int .i64 0, .int .i64 0, .int .i64 0] := by kernel_rfl
end Go.Fw.K23
namespace Go.Fw.K
open Go Go.RowKit Go.Proofs Go.Nat9 Go.Fw Go.Fw.K23
attribute [local irreducible] JC JL JE

theorem few18_con {ad : Option Addr} {n c : Nat} :
    ConF Tryz.prog 7 [.slice ad n c] []
      (fun v φo => v = .bool (decide (fewN n)) ∧ φo = []) := by
  refine ConF_of Tryz.func7 rfl 16 _ rfl rfl ?_; intro w0; refine JC_norm ⟨16, [], [_, _, _, _, _, _, _, _, _, _, _, _, _, _, _, _]⟩ [] [] rfl rfl rfl ?_; refine JC_sr ?_; refine JL_assign rfl ?_; refine JL_du 16 [] [] ?_; refine JC_sr ?_; refine JL_m ?_; refine JL_len sl22 rfl ?_; refine JL_leq rfl rfl ?_; refine JL_split (fun h5 => ?_) (fun h5 => ?_)
  · refine JL_m ?_; refine JL_gn ?_; refine JL_gn ?_; refine JL_gn ?_; refine JL_gn ?_; refine JL_guard_un rfl rfl ?_; refine JL_guard_un rfl rfl ?_; refine JL_guard_un rfl rfl ?_; refine JL_gn ?_; refine JL_pick_t rfl rfl ?_; refine JL_assign rfl ?_; refine JL_du 16 [] [] ?_; refine JC_ret ?_; refine JE_ret (vs := [_]) [] Tryz.results7 ⟨rfl, rfl⟩ ?_ ?_
    · rw [decide_eq_true (p := fewN n) (by unfold fewN; omega)]; exact ⟨rfl, rfl⟩
    · exact all_nil
  · refine JL_m ?_; refine JL_gy ?_; refine JL_m ?_; refine JL_gy ?_; refine JL_len sl22 rfl ?_; refine JL_gy ?_; refine JL_gtr rfl rfl ?_; refine JL_split (fun h9 => ?_) (fun h9 => ?_)
    · refine JL_gy ?_; refine JL_m ?_; refine JL_gy ?_; refine JL_m ?_; refine JL_gy ?_; refine JL_len sl22 rfl ?_; refine JL_gy ?_; refine JL_lss rfl rfl ?_; refine JL_split (fun h13 => ?_) (fun h13 => ?_)
      · refine JL_gy ?_; refine JL_pick_t rfl rfl ?_; refine JL_pick_f rfl rfl ?_; refine JL_assign rfl ?_; refine JL_du 16 [] [] ?_; refine JC_ret ?_; refine JE_ret (vs := [_]) [] Tryz.results7 ⟨rfl, rfl⟩ ?_ ?_
        · rw [decide_eq_true (p := fewN n) (by unfold fewN; omega)]; exact ⟨rfl, rfl⟩
        · exact all_nil
      · refine JL_gy ?_; refine JL_pick_t rfl rfl ?_; refine JL_pick_f rfl rfl ?_; refine JL_assign rfl ?_; refine JL_du 16 [] [] ?_; refine JC_ret ?_; refine JE_ret (vs := [_]) [] Tryz.results7 ⟨rfl, rfl⟩ ?_ ?_
        · rw [decide_eq_false (p := fewN n) (by unfold fewN; omega)]; exact ⟨rfl, rfl⟩
        · exact all_nil
    · refine JL_gy ?_; refine JL_m ?_; refine JL_gn ?_; refine JL_gn ?_; refine JL_gn ?_; refine JL_gy ?_; refine JL_pick_f rfl rfl ?_; refine JL_pick_f rfl rfl ?_; refine JL_assign rfl ?_; refine JL_du 16 [] [] ?_; refine JC_ret ?_; refine JE_ret (vs := [_]) [] Tryz.results7 ⟨rfl, rfl⟩ ?_ ?_
      · rw [decide_eq_false (p := fewN n) (by unfold fewN; omega)]; exact ⟨rfl, rfl⟩
      · exact all_nil

theorem coin_con {i o : Int} :
    ConF Tryz.prog 20 [.int .i64 i, .int .i64 o] []
      (fun v φo => v = sv (coinS i o) ∧ φo = []) := by
  refine ConF_of Tryz.func20 rfl 8 _ rfl rfl ?_; intro w0; refine JC_norm ⟨8, [], [_, _, _, _, _, _, _, _]⟩ [] [] rfl rfl rfl ?_; refine JC_sr ?_; refine JL_alloc z53 (fun b4 => ?_); refine JL_du 8 [box _ _ [_, _, _, _, _, _, _]] [] ?_; refine JC_sr ?_; refine JL_m ?_; refine JL_m ?_; refine JL_build (cs := [_, _, _, _, _, _, _]) [(0, [_]), (1, [_]), (2, [_]), (3, [_]), (4, [_]), (6, [_])] st53 ⟨⟨rfl, _, rfl, rfl⟩, ⟨rfl, _, rfl, rfl⟩, ⟨rfl, _, rfl, rfl⟩, ⟨rfl, _, rfl, rfl⟩, ⟨rfl, _, rfl, rfl⟩, ⟨rfl, _, rfl, rfl⟩, rfl⟩ rfl ?_; refine JL_store (vs := [_, _, _, _, _, _, _]) 0 ty53 rfl rfl rfl (AllOne.cons rfl (AllOne.cons rfl (AllOne.cons rfl (AllOne.cons rfl (AllOne.cons rfl (AllOne.cons rfl (AllOne.cons rfl AllOne.nil))))))) rfl (Nat.le_of_ble_eq_true rfl) ?_; refine JL_du 8 [box _ _ [_, _, _, _, _, _, _]] [] ?_; refine JC_ret ?_; refine JE_ret (vs := [_]) [] Tryz.results20 ⟨RV.cell (vs := [_, _, _, _, _, _, _]) 0 ty53 rfl rfl ⟨rfl, rfl, rfl, rfl, rfl, rfl, rfl, trivial⟩, rfl⟩ ?_ ?_
  · exact ⟨rfl, rfl⟩
  · exact all_nil

set_option maxHeartbeats 4000000 in
theorem awake18_con  :
    ConF Tryz.prog 6 [] []
      (fun v φo => v = .bool (true) ∧ φo = []) := by
  refine ConF_of Tryz.func6 rfl 53 _ rfl rfl ?_; intro w0; refine JC_norm ⟨53, [], [_, _, _, _, _, _, _, _, _, _, _, _, _, _, _, _, _, _, _, _, _, _, _, _, _, _, _, _, _, _, _, _, _, _, _, _, _, _, _, _, _, _, _, _, _, _, _, _, _, _, _, _, _]⟩ [] [] rfl rfl rfl ?_; refine JC_sr ?_; refine JL_assign rfl ?_; refine JL_du 53 [] [] ?_; refine JC_sr ?_; refine JL_callF' Asks.nil (coin_con (i := 1) (o := 1)) rfl ca20 ⟨rfl, rfl, rfl⟩ ?_; rintro _ _ ⟨rfl, rfl⟩; refine JL_callF' Asks.nil (coin_con (i := 2) (o := 1)) rfl ca20 ⟨rfl, rfl, rfl⟩ ?_; rintro _ _ ⟨rfl, rfl⟩; refine JL_callF' Asks.nil (coin_con (i := 3) (o := 2)) rfl ca20 ⟨rfl, rfl, rfl⟩ ?_; rintro _ _ ⟨rfl, rfl⟩; refine JL_callF' Asks.nil (coin_con (i := 4) (o := 3)) rfl ca20 ⟨rfl, rfl, rfl⟩ ?_; rintro _ _ ⟨rfl, rfl⟩
  refine JL_buildN (cs0 := [.int .i64 0, .int .i64 0, .int .i64 0, .int .i64 0, .int .i64 0, .int .i64 0, .int .i64 0, .int .i64 0, .int .i64 0, .int .i64 0, .int .i64 0, .int .i64 0, .int .i64 0, .int .i64 0, .int .i64 0, .int .i64 0, .int .i64 0, .int .i64 0, .int .i64 0, .int .i64 0, .int .i64 0, .int .i64 0, .int .i64 0, .int .i64 0, .int .i64 0, .int .i64 0, .int .i64 0, .int .i64 0]) (cs := [_, _, _, _, _, _, _, _, _, _, _, _, _, _, _, _, _, _, _, _, _, _, _, _, _, _, _, _]) [(0, [_, _, _, _, _, _, _]), (1, [_, _, _, _, _, _, _]), (2, [_, _, _, _, _, _, _]), (3, [_, _, _, _, _, _, _])] sl22 (by kernel_rfl) ⟨⟨rfl, _, rfl, rfl⟩, ⟨rfl, _, rfl, rfl⟩, ⟨rfl, _, rfl, rfl⟩, ⟨rfl, _, rfl, rfl⟩, rfl⟩ rfl rfl rfl rfl (fun g12 => ?_); refine JL_norm _ [osl _ _ _ _ _ (scells A18)] [] rfl rfl rfl ?_; refine JL_assign rfl ?_; refine JL_du 53 [osl _ _ _ _ _ _] [] ?_; refine JC_sr ?_; refine JL_callF' Asks.nil (coin_con (i := 1) (o := 10)) rfl ca20 ⟨rfl, rfl, rfl⟩ ?_; rintro _ _ ⟨rfl, rfl⟩; refine JL_callF' Asks.nil (coin_con (i := 2) (o := 11)) rfl ca20 ⟨rfl, rfl, rfl⟩ ?_; rintro _ _ ⟨rfl, rfl⟩
  refine JL_callF' Asks.nil (coin_con (i := 3) (o := 11)) rfl ca20 ⟨rfl, rfl, rfl⟩ ?_; rintro _ _ ⟨rfl, rfl⟩; refine JL_callF' Asks.nil (coin_con (i := 9) (o := 10)) rfl ca20 ⟨rfl, rfl, rfl⟩ ?_; rintro _ _ ⟨rfl, rfl⟩; refine JL_buildN (cs0 := [.int .i64 0, .int .i64 0, .int .i64 0, .int .i64 0, .int .i64 0, .int .i64 0, .int .i64 0, .int .i64 0, .int .i64 0, .int .i64 0, .int .i64 0, .int .i64 0, .int .i64 0, .int .i64 0, .int .i64 0, .int .i64 0, .int .i64 0, .int .i64 0, .int .i64 0, .int .i64 0, .int .i64 0, .int .i64 0, .int .i64 0, .int .i64 0, .int .i64 0, .int .i64 0, .int .i64 0, .int .i64 0]) (cs := [_, _, _, _, _, _, _, _, _, _, _, _, _, _, _, _, _, _, _, _, _, _, _, _, _, _, _, _]) [(0, [_, _, _, _, _, _, _]), (1, [_, _, _, _, _, _, _]), (2, [_, _, _, _, _, _, _]), (3, [_, _, _, _, _, _, _])] sl22 (by kernel_rfl) ⟨⟨rfl, _, rfl, rfl⟩, ⟨rfl, _, rfl, rfl⟩, ⟨rfl, _, rfl, rfl⟩, ⟨rfl, _, rfl, rfl⟩, rfl⟩ rfl rfl rfl rfl (fun g17 => ?_); refine JL_norm _ [osl _ _ _ _ _ _, osl _ _ _ _ _ (scells B18)] [] rfl rfl rfl ?_; refine JL_assign rfl ?_; refine JL_du 53 [osl _ _ _ _ _ _, osl _ _ _ _ _ _] [] ?_; refine JC_sr ?_; refine JL_m ?_
  refine JL_m ?_; refine JL_callF' (Asks.cons (by first | (exact holds_of_own 0 rfl) | (exact holds_of_own 1 rfl)) (Asks.cons (by first | (exact holds_of_own 0 rfl) | (exact holds_of_own 1 rfl)) Asks.nil)) (com_con (a := A18) (b := B18) (by decide) (by decide)) rfl ca12 ⟨rfl, rfl, rfl⟩ ?_; rintro _ _ ⟨ad21, c21, rfl, hc21, rfl⟩; rw [aw_com, aw_err]; refine JL_m ?_; refine JL_extract rfl rfl ?_; refine JL_extract rfl rfl ?_; refine JL_assign rfl ?_; refine JL_assign rfl ?_; refine JL_du 53 [osl _ _ _ _ _ _, osl _ _ _ _ _ _] [_] ?_; refine JC_sr ?_; refine JL_m ?_; refine JL_m ?_; refine JL_callF' (Asks.cons (by first | exact holds_of_mem am | (exact holds_of_own 0 rfl) | (exact holds_of_own 1 rfl)) (Asks.cons (by first | exact holds_of_mem am | (exact holds_of_own 0 rfl) | (exact holds_of_own 1 rfl)) Asks.nil)) (best_con (a := A18) (b := B18) (side := 0) (by decide) (by decide)) rfl ca17 ⟨rfl, rfl, rfl, rfl⟩ ?_; rintro _ _ ⟨ad27, c27, rfl, rfl⟩; rw [aw_bst, aw_num, aw_errB]; refine JL_m ?_; refine JL_extract rfl rfl ?_; refine JL_extract rfl rfl ?_; refine JL_extract rfl rfl ?_; refine JL_assign rfl ?_; refine JL_assign rfl ?_
  refine JL_assign rfl ?_; refine JL_du 53 [osl _ _ _ _ _ _, osl _ _ _ _ _ _] [_, _] ?_; refine JC_sr ?_; refine JL_m ?_; refine JL_eql rfl rfl ?_; rw [decide_eq_true (p := (0 : Int) = 0) rfl]; refine JL_m ?_; refine JL_gy ?_; refine JL_m ?_; refine JL_gy ?_; refine JL_buildN (cs0 := [.int .i64 0, .int .i64 0, .int .i64 0]) (cs := [_, _, _]) [(0, [_]), (1, [_]), (2, [_])] sl36 (by kernel_rfl) ⟨⟨rfl, _, rfl, rfl⟩, ⟨rfl, _, rfl, rfl⟩, ⟨rfl, _, rfl, rfl⟩, rfl⟩ rfl rfl rfl rfl (fun g35 => ?_); refine JL_norm _ [osl _ _ _ _ _ _, osl _ _ _ _ _ _, osl _ _ _ _ _ (i64s ([1, 2, 3]))] [_, _] rfl rfl rfl ?_; refine JL_gy ?_; refine JL_callF' (Asks.cons (by first | exact holds_of_mem am | (exact holds_of_own 0 rfl) | (exact holds_of_own 1 rfl) | (exact holds_of_own 2 rfl)) (Asks.cons (by first | exact holds_of_mem am | (exact holds_of_own 0 rfl) | (exact holds_of_own 1 rfl) | (exact holds_of_own 2 rfl)) Asks.nil)) (bints_con (L := [1, 2, 3]) (by decide)) rfl ca14 ⟨rfl, rfl, rfl⟩ ?_; rintro _ _ ⟨rfl, rfl⟩; refine JL_pick_t rfl rfl ?_; refine JL_m ?_; refine JL_gy ?_; refine JL_m ?_; refine JL_gy ?_; refine JL_eql rfl rfl ?_
  rw [decide_eq_true (p := (0 : Int) = 0) rfl]; refine JL_pick_t rfl rfl ?_; refine JL_m ?_; refine JL_gy ?_; refine JL_m ?_; refine JL_gy ?_; refine JL_eql rfl rfl ?_; rw [decide_eq_true (p := (2 : Int) = 2) rfl]; refine JL_pick_t rfl rfl ?_; refine JL_m ?_; refine JL_gy ?_; refine JL_m ?_; refine JL_gy ?_; refine JL_build (cs := [_, _]) [(0, [_]), (1, [_])] st57 ⟨⟨rfl, _, rfl, rfl⟩, ⟨rfl, _, rfl, rfl⟩, rfl⟩ rfl ?_; refine JL_gy ?_; refine JL_build (cs := [_, _]) [(0, [_]), (1, [_])] st57 ⟨⟨rfl, _, rfl, rfl⟩, ⟨rfl, _, rfl, rfl⟩, rfl⟩ rfl ?_; refine JL_gy ?_; refine JL_buildN (cs0 := [.int .i64 0, .int .i64 0, .int .i64 0, .int .i64 0]) (cs := [_, _, _, _]) [(0, [_, _]), (1, [_, _])] sl46 (by kernel_rfl) ⟨⟨rfl, _, rfl, rfl⟩, ⟨rfl, _, rfl, rfl⟩, rfl⟩ rfl rfl rfl rfl (fun g50 => ?_); refine JL_norm _ [osl _ _ _ _ _ _, osl _ _ _ _ _ _, osl _ _ _ _ _ _, osl _ _ _ _ _ (pcells [(1, 10), (2, 11)])] [_, _] rfl rfl rfl ?_; refine JL_gy ?_
  refine JL_callF' (Asks.cons (by first | exact holds_of_mem am | (exact holds_of_own 0 rfl) | (exact holds_of_own 1 rfl) | (exact holds_of_own 2 rfl) | (exact holds_of_own 3 rfl)) (Asks.cons (by first | exact holds_of_mem am | (exact holds_of_own 0 rfl) | (exact holds_of_own 1 rfl) | (exact holds_of_own 2 rfl) | (exact holds_of_own 3 rfl)) Asks.nil)) (bpairs_con (l := [(1, 10), (2, 11)]) (by decide)) rfl ca21 ⟨rfl, rfl, rfl⟩ ?_; rintro _ _ ⟨rfl, rfl⟩; refine JL_pick_t rfl rfl ?_; refine JL_assign rfl ?_; refine JL_du 53 [osl _ _ _ _ _ _, osl _ _ _ _ _ _, osl _ _ _ _ _ _, osl _ _ _ _ _ _] [_, _] ?_; refine JC_ret ?_; refine JE_ret (vs := [_]) [] Tryz.results6 ⟨rfl, rfl⟩ ?_ ?_
  · exact ⟨rfl, rfl⟩
  · exact all_nil

end Go.Fw.K
