/- Walks through functions of the given program: each meets its contract. (Printed by a program of this repo.) -/
import Derived.Test.YtjdojhhngganeaaGreatDoorD12
import Derived.Test.YtjdojhhngganeaaGreatDoorD8
import Derived.Test.YtjdojhhngganeaaGreatDoorE6
import Derived.Test.YtjdojhhngganeaaGreatDoorB1
import Derived.Test.YtjdojhhngganeaaGreatDoorProg
namespace Go.Fw.T7
open Go Go.RowKit Go.Proofs Go.Nat9 Go.Fw
attribute [local irreducible] JC JL JE
theorem ca10 : callable Tryz.prog 10 = true := by kernel_rfl
theorem ca11 : callable Tryz.prog 11 = true := by kernel_rfl
theorem ca20 : callable Tryz.prog 20 = true := by kernel_rfl
theorem ca21 : callable Tryz.prog 21 = true := by kernel_rfl
theorem ca22 : callable Tryz.prog 22 = true := by kernel_rfl
theorem ty36 : tyOf Tryz.prog 36 = some (true, 3) := by kernel_rfl
theorem ty44 : tyOf Tryz.prog 44 = some (true, 2) := by kernel_rfl
theorem z36 : zeroOf Tryz.prog 36 = some [.bool false, .slice none 0 0, .slice none 0 0] := by kernel_rfl
theorem z44 : zeroOf Tryz.prog 44 = some [.int .i64 0, .int .i64 0] := by kernel_rfl
end Go.Fw.T7
namespace Go.Fw.K
open Go Go.RowKit Go.Proofs Go.Nat9 Go.Fw Go.Fw.T7
attribute [local irreducible] JC JL JE

set_option maxHeartbeats 4000000 in
theorem certainBalances_con {n : Int} (hn1 : -9223372036854775808 ≤ n) (hn2 : n ≤ 9223372036854775807) {ad : Option Addr} {c : Nat} {l : List Pr} (hcp : l.length ≤ c ∧ c ≤ 9223372036854775807) :
    ConF Tryz.prog 4 [.int .i64 n, .slice ad l.length c] [vCells ad (pcells l)]
      (fun v φo => v = .bool true ∧ φo = []) := by
  have _ := hn1
  have _ := hn2
  refine ConF_of Tryz.func4 rfl 47 _ rfl rfl ?_; intro w0; refine JC_norm ⟨47, [], [_, _, _, _, _, _, _, _, _, _, _, _, _, _, _, _, _, _, _, _, _, _, _, _, _, _, _, _, _, _, _, _, _, _, _, _, _, _, _, _, _, _, _, _, _, _, _]⟩ [] [_] rfl rfl rfl ?_; refine JC_sr ?_; refine JL_assign rfl ?_; refine JL_du 47 [] [_] ?_; refine JC_seq ?_; refine JC_sr ?_; refine JL_callF' Asks.nil (awake24_con) rfl ca10 rfl ?_; rintro _ _ ⟨rfl, rfl⟩; refine JL_not rfl ?_; rw [Bool.not_true]; refine JL_m ?_; refine JL_gy ?_; refine JL_m ?_; refine JL_gy ?_; refine JL_m ?_; refine JL_gy ?_; refine JL_callF' Asks.nil (few_con) rfl ca11 ⟨rfl, rfl, rfl⟩ ?_; rintro _ _ ⟨rfl, rfl⟩; refine JL_split (fun h16 => ?_) (fun h16 => ?_)
  · refine JL_gy ?_; refine JL_not rfl ?_; rw [Bool.not_true]; refine JL_pick_f rfl rfl ?_; refine JL_du 47 [] [_] ?_; refine JC_false rfl ?_; refine JC_skip ?_; refine JE_then ?_; refine JC_seq ?_
    have hln := h16.2
    have hq := qs_balO n l
    refine JC_region ?_; refine JL_m ?_; refine JL_m ?_; refine JL_callF' (Asks.cons (holds_of_mem am) Asks.nil) (balanced_con (by omega) hcp.1) rfl ca21 ⟨rfl, rfl, rfl⟩ ?_; rintro _ _ ⟨ad23, c23, be23, e23, rfl, rfl⟩; refine JL_m ?_; refine JL_extract rfl rfl ?_; refine JL_extract rfl rfl ?_; refine JL_extract rfl rfl ?_; refine JL_alloc z44 (fun b5 => ?_); refine JL_alloc z36 (fun b6 => ?_); refine JL_store (vs := [_, _]) 0 ty44 rfl rfl rfl (AllOne.cons rfl (AllOne.cons rfl AllOne.nil)) rfl (Nat.le_of_ble_eq_true rfl) ?_; refine JL_store (vs := [_, _, _]) 1 ty36 rfl rfl rfl (AllOne.cons rfl (AllOne.cons rfl (AllOne.cons rfl AllOne.nil))) rfl (Nat.le_of_ble_eq_true rfl) ?_; refine JL_assign rfl ?_; refine JL_du 47 [box _ _ [_, _], box _ _ [_, _, _]] [_, _, _] ?_; refine JC_sr ?_; refine JL_m ?_; refine JL_m ?_; refine JL_callF' (Asks.cons (holds_of_mem am) Asks.nil) (rbalanced_con (by omega)) rfl ca22 ⟨rfl, rfl, rfl⟩ ?_; rintro _ _ ⟨ad30, c30, be30, e30, rfl, rfl⟩; refine JL_m ?_; refine JL_extract rfl rfl ?_; refine JL_extract rfl rfl ?_; refine JL_extract rfl rfl ?_; refine JL_alloc z44 (fun b8 => ?_)
    refine JL_alloc z36 (fun b9 => ?_); refine JL_store (vs := [_, _]) 2 ty44 rfl rfl rfl (AllOne.cons rfl (AllOne.cons rfl AllOne.nil)) rfl (Nat.le_of_ble_eq_true rfl) ?_; refine JL_store (vs := [_, _, _]) 3 ty36 rfl rfl rfl (AllOne.cons rfl (AllOne.cons rfl (AllOne.cons rfl AllOne.nil))) rfl (Nat.le_of_ble_eq_true rfl) ?_; refine JL_assign rfl ?_; refine JL_du 47 [box _ _ [_, _], box _ _ [_, _, _], box _ _ [_, _], box _ _ [_, _, _]] [_, _, _, _, _] ?_; refine JC_sr ?_; refine JL_m ?_; refine JL_m ?_; refine JL_eql rfl rfl ?_; rw [decide_eq_true rfl]; refine JL_m ?_; refine JL_gy ?_; refine JL_loadA (vs := [_, _]) 0 ty44 rfl rfl ⟨rfl, rfl, trivial⟩ ?_; refine JL_gy ?_; refine JL_loadA (vs := [_, _]) 2 ty44 rfl rfl ⟨rfl, rfl, trivial⟩ ?_; refine JL_gy ?_; refine JL_eqlP (p := balP n l) (q := balP n l) eqPair rfl rfl ?_; rw [decide_eq_true rfl]; refine JL_pick_t rfl rfl ?_; refine JL_m ?_; refine JL_gy ?_; refine JL_loadA (vs := [_, _, _]) 1 ty36 rfl rfl ⟨rfl, rfl, rfl, trivial⟩ ?_; refine JL_gy ?_; refine JL_loadA (vs := [_, _, _]) 3 ty36 rfl rfl ⟨rfl, rfl, rfl, trivial⟩ ?_; refine JL_gy ?_
    refine JL_callF' (Asks.cons (holds_of_mem am) (Asks.cons (holds_of_mem am) (Asks.cons (holds_of_mem am) (Asks.cons (holds_of_mem am) Asks.nil)))) (bfrac_con (o := balO n l) (hq.mono (by decide))) rfl ca20 ⟨rfl, rfl, rfl⟩ ?_; rintro _ _ ⟨rfl, rfl⟩; refine JL_pick_t rfl rfl ?_; refine JL_assign rfl ?_; refine JL_du 47 [box _ _ [_, _], box _ _ [_, _, _], box _ _ [_, _], box _ _ [_, _, _]] [_, _, _, _, _] ?_; refine JC_ret ?_; refine JE_ret (vs := [_]) [] Tryz.results4 ⟨rfl, rfl⟩ ?_ ?_
    · exact ⟨rfl, rfl⟩
    · exact all_nil
  · refine JL_gy ?_; refine JL_not rfl ?_; rw [Bool.not_false]; refine JL_pick_f rfl rfl ?_; refine JL_du 47 [] [_] ?_; refine JC_true rfl ?_; refine JC_sr ?_; refine JL_callF' Asks.nil (awake24_con) rfl ca10 rfl ?_; rintro _ _ ⟨rfl, rfl⟩; refine JL_assign rfl ?_; refine JL_du 47 [] [_] ?_; refine JC_ret ?_; refine JE_then_ret ?_; refine JE_ret (vs := [_]) [] Tryz.results4 ⟨rfl, rfl⟩ ?_ ?_
    · exact ⟨rfl, rfl⟩
    · exact all_nil

end Go.Fw.K
