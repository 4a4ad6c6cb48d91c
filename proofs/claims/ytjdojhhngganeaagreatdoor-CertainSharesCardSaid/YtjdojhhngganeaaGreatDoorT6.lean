/- Walks through functions of the given program: each meets its contract. (Printed by a program of this repo.) -/
import Derived.Test.YtjdojhhngganeaaGreatDoorD12
import Derived.Test.YtjdojhhngganeaaGreatDoorD8
import Derived.Test.YtjdojhhngganeaaGreatDoorE5
import Derived.Test.YtjdojhhngganeaaGreatDoorB1
import Derived.Test.YtjdojhhngganeaaGreatDoorProg
namespace Go.Fw.T6
open Go Go.RowKit Go.Proofs Go.Nat9 Go.Fw
attribute [local irreducible] JC JL JE
theorem ar23 : arOf Tryz.prog 23 = some (2, 1) := by kernel_rfl
theorem ca10 : callable Tryz.prog 10 = true := by kernel_rfl
theorem ca11 : callable Tryz.prog 11 = true := by kernel_rfl
theorem ca12 : callable Tryz.prog 12 = true := by kernel_rfl
theorem ca13 : callable Tryz.prog 13 = true := by kernel_rfl
theorem ca14 : callable Tryz.prog 14 = true := by kernel_rfl
theorem ca15 : callable Tryz.prog 15 = true := by kernel_rfl
theorem ca16 : callable Tryz.prog 16 = true := by kernel_rfl
theorem ca17 : callable Tryz.prog 17 = true := by kernel_rfl
theorem ca18 : callable Tryz.prog 18 = true := by kernel_rfl
theorem ca19 : callable Tryz.prog 19 = true := by kernel_rfl
theorem ca20 : callable Tryz.prog 20 = true := by kernel_rfl
theorem ty3 : tyOf Tryz.prog 3 = some (false, 1) := by kernel_rfl
theorem ty36 : tyOf Tryz.prog 36 = some (true, 3) := by kernel_rfl
theorem z36 : zeroOf Tryz.prog 36 = some [.bool false, .slice none 0 0, .slice none 0 0] := by kernel_rfl
end Go.Fw.T6
namespace Go.Fw.K
open Go Go.RowKit Go.Proofs Go.Nat9 Go.Fw Go.Fw.T6
attribute [local irreducible] JC JL JE

set_option maxHeartbeats 4000000 in
theorem certainShares_con {n : Int} (hn1 : -9223372036854775808 ≤ n) (hn2 : n ≤ 9223372036854775807) {ad : Option Addr} {c : Nat} {l : List Pr} (hcp : l.length ≤ c ∧ c ≤ 9223372036854775807) {a b : Int} (ha1 : -9223372036854775808 ≤ a) (ha2 : a ≤ 9223372036854775807) (hb1 : -9223372036854775808 ≤ b) (hb2 : b ≤ 9223372036854775807) :
    ConF Tryz.prog 3 [.int .i64 n, .slice ad l.length c, .agg #[.int .i64 a, .int .i64 b]] [vCells ad (pcells l)]
      (fun v φo => v = .bool true ∧ φo = []) := by
  have _ := hn1
  have _ := hn2
  have _ := ha1
  have _ := ha2
  have _ := hb1
  have _ := hb2
  refine ConF_of Tryz.func3 rfl 100 _ rfl rfl ?_; intro w0; refine JC_norm ⟨100, [], [_, _, _, _, _, _, _, _, _, _, _, _, _, _, _, _, _, _, _, _, _, _, _, _, _, _, _, _, _, _, _, _, _, _, _, _, _, _, _, _, _, _, _, _, _, _, _, _, _, _, _, _, _, _, _, _, _, _, _, _, _, _, _, _, _, _, _, _, _, _, _, _, _, _, _, _, _, _, _, _, _, _, _, _, _, _, _, _, _, _, _, _, _, _, _, _, _, _, _, _]⟩ [] [_] rfl rfl rfl ?_; refine JC_sr ?_; refine JL_box rfl rfl (fun b5 => ?_); refine JL_assign rfl ?_; refine JL_du 100 [box _ _ [_, _]] [_] ?_; refine JC_seq ?_; refine JC_sr ?_; refine JL_callF' Asks.nil (awake24_con) rfl ca10 rfl ?_; rintro _ _ ⟨rfl, rfl⟩; refine JL_not rfl ?_; rw [Bool.not_true]; refine JL_m ?_; refine JL_gy ?_; refine JL_m ?_; refine JL_gy ?_; refine JL_m ?_; refine JL_gy ?_; refine JL_callF' Asks.nil (few_con) rfl ca11 ⟨rfl, rfl, rfl⟩ ?_; rintro _ _ ⟨rfl, rfl⟩; refine JL_split (fun h24 => ?_) (fun h24 => ?_)
  · refine JL_gy ?_; refine JL_not rfl ?_; rw [Bool.not_true]; refine JL_pick_f rfl rfl ?_; refine JL_du 100 [box _ _ [_, _]] [_] ?_; refine JC_false rfl ?_; refine JC_skip ?_; refine JE_then ?_; refine JC_seq ?_
    have hln := h24.2
    have hl1 := shr_len n l
    have hl2 := opn_len n l
    have hq := qs_shO n l a b
    refine JC_region ?_; refine JL_m ?_; refine JL_m ?_; refine JL_callF' (Asks.cons (holds_of_mem am) Asks.nil) (shared_con (by omega)) rfl ca12 ⟨rfl, rfl, rfl⟩ ?_; rintro _ _ ⟨ad31, c31, rfl, hc31, rfl⟩; refine JL_m ?_; refine JL_extract rfl rfl ?_; refine JL_extract rfl rfl ?_; refine JL_assign rfl ?_; refine JL_assign rfl ?_; refine JL_du 100 [box _ _ [_, _]] [_, _] ?_; refine JC_sr ?_; refine JL_m ?_; refine JL_m ?_; refine JL_callF' (Asks.cons (holds_of_mem am) Asks.nil) (open_con (by omega)) rfl ca13 ⟨rfl, rfl, rfl⟩ ?_; rintro _ _ ⟨ad37, c37, rfl, hc37, rfl⟩; refine JL_m ?_; refine JL_extract rfl rfl ?_; refine JL_extract rfl rfl ?_; refine JL_assign rfl ?_; refine JL_assign rfl ?_; refine JL_du 100 [box _ _ [_, _]] [_, _, _] ?_; refine JC_sr ?_; refine JL_m ?_; refine JL_m ?_; refine JL_idxArr 0 ar23 rfl rfl rfl (by decide) ?_; refine JL_load 0 ty3 rfl rfl rfl ?_; refine JL_idxArr 1 ar23 rfl rfl rfl (by decide) ?_; refine JL_load 0 ty3 rfl rfl rfl ?_; refine JL_callF' (Asks.cons (holds_of_mem am) Asks.nil) (share_con (by omega) hcp.1) rfl ca14 ⟨rfl, rfl, rfl, rfl, rfl⟩ ?_
    rintro _ _ ⟨ad47, cp47, be47, ce47, rfl, rfl⟩; refine JL_m ?_; refine JL_extract rfl rfl ?_; refine JL_extract rfl rfl ?_; refine JL_alloc z36 (fun b11 => ?_); refine JL_store (vs := [_, _, _]) 1 ty36 rfl rfl rfl (AllOne.cons rfl (AllOne.cons rfl (AllOne.cons rfl AllOne.nil))) rfl (Nat.le_of_ble_eq_true rfl) ?_; refine JL_assign rfl ?_; refine JL_du 100 [box _ _ [_, _], box _ _ [_, _, _]] [_, _, _, _, _] ?_; refine JC_sr ?_; refine JL_m ?_; refine JL_m ?_; refine JL_callF' (Asks.cons (holds_of_mem am) Asks.nil) (rshared_con (by omega)) rfl ca15 ⟨rfl, rfl, rfl⟩ ?_; rintro _ _ ⟨ad53, c53, rfl, hc53, rfl⟩; refine JL_m ?_; refine JL_extract rfl rfl ?_; refine JL_extract rfl rfl ?_; refine JL_assign rfl ?_; refine JL_assign rfl ?_; refine JL_du 100 [box _ _ [_, _], box _ _ [_, _, _]] [_, _, _, _, _, _] ?_; refine JC_sr ?_; refine JL_m ?_; refine JL_m ?_; refine JL_callF' (Asks.cons (holds_of_mem am) Asks.nil) (ropen_con (by omega)) rfl ca16 ⟨rfl, rfl, rfl⟩ ?_; rintro _ _ ⟨ad59, c59, rfl, hc59, rfl⟩; refine JL_m ?_; refine JL_extract rfl rfl ?_; refine JL_extract rfl rfl ?_
    refine JL_assign rfl ?_; refine JL_assign rfl ?_; refine JL_du 100 [box _ _ [_, _], box _ _ [_, _, _]] [_, _, _, _, _, _, _] ?_; refine JC_sr ?_; refine JL_m ?_; refine JL_m ?_; refine JL_idxArr 0 ar23 rfl rfl rfl (by decide) ?_; refine JL_load 0 ty3 rfl rfl rfl ?_; refine JL_idxArr 1 ar23 rfl rfl rfl (by decide) ?_; refine JL_load 0 ty3 rfl rfl rfl ?_; refine JL_callF' (Asks.cons (holds_of_mem am) Asks.nil) (rshare_con (by omega)) rfl ca17 ⟨rfl, rfl, rfl, rfl, rfl⟩ ?_; rintro _ _ ⟨ad69, cp69, be69, ce69, rfl, rfl⟩; refine JL_m ?_; refine JL_extract rfl rfl ?_; refine JL_extract rfl rfl ?_; refine JL_alloc z36 (fun b17 => ?_); refine JL_store (vs := [_, _, _]) 2 ty36 rfl rfl rfl (AllOne.cons rfl (AllOne.cons rfl (AllOne.cons rfl AllOne.nil))) rfl (Nat.le_of_ble_eq_true rfl) ?_; refine JL_assign rfl ?_; refine JL_du 100 [box _ _ [_, _], box _ _ [_, _, _], box _ _ [_, _, _]] [_, _, _, _, _, _, _, _, _] ?_; refine JC_sr ?_; refine JL_m ?_; refine JL_m ?_; refine JL_eql rfl rfl ?_; rw [decide_eq_true rfl]; refine JL_m ?_; refine JL_gy ?_; refine JL_m ?_; refine JL_gy ?_
    refine JL_m ?_; refine JL_gy ?_; refine JL_eql rfl rfl ?_; rw [decide_eq_true rfl]; refine JL_pick_t rfl rfl ?_; refine JL_m ?_; refine JL_gy ?_; refine JL_m ?_; refine JL_gy ?_; refine JL_m ?_; refine JL_gy ?_; refine JL_eql rfl rfl ?_; rw [decide_eq_true rfl]; refine JL_pick_t rfl rfl ?_; refine JL_m ?_; refine JL_gy ?_; refine JL_m ?_; refine JL_gy ?_; refine JL_m ?_; refine JL_gy ?_; refine JL_callF' (Asks.cons (holds_of_mem am) (Asks.cons (holds_of_mem am) Asks.nil)) (barcs_con (l := shrR n l) (by omega)) rfl ca18 ⟨rfl, rfl, rfl⟩ ?_; rintro _ _ ⟨rfl, rfl⟩; refine JL_pick_t rfl rfl ?_; refine JL_m ?_; refine JL_gy ?_; refine JL_m ?_; refine JL_gy ?_; refine JL_m ?_; refine JL_gy ?_; refine JL_callF' (Asks.cons (holds_of_mem am) (Asks.cons (holds_of_mem am) Asks.nil)) (bpairs_con (l := opnR n l) (by omega)) rfl ca19 ⟨rfl, rfl, rfl⟩ ?_; rintro _ _ ⟨rfl, rfl⟩; refine JL_pick_t rfl rfl ?_; refine JL_m ?_; refine JL_gy ?_; refine JL_loadA (vs := [_, _, _]) 1 ty36 rfl rfl ⟨rfl, rfl, rfl, trivial⟩ ?_; refine JL_gy ?_; refine JL_loadA (vs := [_, _, _]) 2 ty36 rfl rfl ⟨rfl, rfl, rfl, trivial⟩ ?_
    refine JL_gy ?_; refine JL_callF' (Asks.cons (holds_of_mem am) (Asks.cons (holds_of_mem am) (Asks.cons (holds_of_mem am) (Asks.cons (holds_of_mem am) Asks.nil)))) (bfrac_con (o := shO n l a b) (hq.mono (by decide))) rfl ca20 ⟨rfl, rfl, rfl⟩ ?_; rintro _ _ ⟨rfl, rfl⟩; refine JL_pick_t rfl rfl ?_; refine JL_assign rfl ?_; refine JL_du 100 [box _ _ [_, _], box _ _ [_, _, _], box _ _ [_, _, _]] [_, _, _, _, _, _, _, _, _] ?_; refine JC_ret ?_; refine JE_ret (vs := [_]) [] Tryz.results3 ⟨rfl, rfl⟩ ?_ ?_
    · exact ⟨rfl, rfl⟩
    · exact all_nil
  · refine JL_gy ?_; refine JL_not rfl ?_; rw [Bool.not_false]; refine JL_pick_f rfl rfl ?_; refine JL_du 100 [box _ _ [_, _]] [_] ?_; refine JC_true rfl ?_; refine JC_sr ?_; refine JL_callF' Asks.nil (awake24_con) rfl ca10 rfl ?_; rintro _ _ ⟨rfl, rfl⟩; refine JL_assign rfl ?_; refine JL_du 100 [box _ _ [_, _]] [_] ?_; refine JC_ret ?_; refine JE_then_ret ?_; refine JE_ret (vs := [_]) [] Tryz.results3 ⟨rfl, rfl⟩ ?_ ?_
    · exact ⟨rfl, rfl⟩
    · exact all_nil

end Go.Fw.K
