/- Walks through functions of the given program: each meets its contract. (Printed by a program of this repo.) -/
import Derived.Test.YtfkfmpfohaomhaaGreatK23
import Derived.Test.YtfkfmpfohaomhaaGreatK24
import Derived.Test.YtfkfmpfohaomhaaGreatK25
import Derived.Test.YtfkfmpfohaomhaaGreatB1
import Derived.Test.YtfkfmpfohaomhaaGreatProg
namespace Go.Fw.T5
open Go Go.RowKit Go.Proofs Go.Nat9 Go.Fw
attribute [local irreducible] JC JL JE
theorem ca10 : callable Tryz.prog 10 = true := by kernel_rfl
theorem ca6 : callable Tryz.prog 6 = true := by kernel_rfl
theorem ca7 : callable Tryz.prog 7 = true := by kernel_rfl
theorem ca8 : callable Tryz.prog 8 = true := by kernel_rfl
theorem ca9 : callable Tryz.prog 9 = true := by kernel_rfl
theorem ty29 : tyOf Tryz.prog 29 = some (true, 3) := by kernel_rfl
theorem z29 : zeroOf Tryz.prog 29 = some [.bool false, .slice none 0 0, .slice none 0 0] := by kernel_rfl
end Go.Fw.T5
namespace Go.Fw.K
open Go Go.RowKit Go.Proofs Go.Nat9 Go.Fw Go.Fw.T5
attribute [local irreducible] JC JL JE

set_option maxHeartbeats 4000000 in
theorem correspondenceAgrees_con {ad1 ad2 : Option Addr} {c1 c2 : Nat} {a b : List Spc} (hc1 : a.length ≤ c1 ∧ c1 ≤ 9223372036854775807) (hc2 : b.length ≤ c2 ∧ c2 ≤ 9223372036854775807) {side : Int} (hs1 : -9223372036854775808 ≤ side) (hs2 : side ≤ 9223372036854775807) :
    ConF Tryz.prog 3 [.slice ad1 a.length c1, .slice ad2 b.length c2, .int .i64 side] [vCells ad1 (scells a), vCells ad2 (scells b)]
      (fun v φo => v = .bool true ∧ φo = []) := by
  have _ := hc1
  have _ := hc2
  have _ := hs1
  have _ := hs2
  refine ConF_of Tryz.func3 rfl 46 _ rfl rfl ?_; intro w0; refine JC_norm ⟨46, [], [_, _, _, _, _, _, _, _, _, _, _, _, _, _, _, _, _, _, _, _, _, _, _, _, _, _, _, _, _, _, _, _, _, _, _, _, _, _, _, _, _, _, _, _, _, _]⟩ [] [_, _] rfl rfl rfl ?_; refine JC_sr ?_; refine JL_assign rfl ?_; refine JL_du 46 [] [_, _] ?_; refine JC_seq ?_; refine JC_sr ?_; refine JL_callF' Asks.nil (awake18_con) rfl ca6 rfl ?_; rintro _ _ ⟨rfl, rfl⟩; refine JL_not rfl ?_; rw [Bool.not_true]; refine JL_m ?_; refine JL_gy ?_; refine JL_m ?_; refine JL_gy ?_; refine JL_callF' Asks.nil (few18_con (n := a.length)) rfl ca7 ⟨rfl, rfl⟩ ?_; rintro _ _ ⟨rfl, rfl⟩; refine JL_split (fun h15 => ?_) (fun h15 => ?_)
  · refine JL_gy ?_; refine JL_not rfl ?_; rw [Bool.not_true]; refine JL_pick_f rfl rfl ?_; refine JL_m ?_; refine JL_gy ?_; refine JL_m ?_; refine JL_gy ?_; refine JL_callF' Asks.nil (few18_con (n := b.length)) rfl ca7 ⟨rfl, rfl⟩ ?_; rintro _ _ ⟨rfl, rfl⟩; refine JL_split (fun h20 => ?_) (fun h20 => ?_)
    · refine JL_gy ?_; refine JL_not rfl ?_; rw [Bool.not_true]; refine JL_pick_f rfl rfl ?_; refine JL_du 46 [] [_, _] ?_; refine JC_false rfl ?_; refine JC_skip ?_; refine JE_then ?_; refine JC_seq ?_
      have hla := fewN_le h15
      have hlb := fewN_le h20
      have hna : a.length ≤ 1000000 := by omega
      have hnb : b.length ≤ 1000000 := by omega
      have hka : a.length ≤ 1000 := by omega
      have hkb : b.length ≤ 1000 := by omega
      refine JC_region ?_; refine JL_m ?_; refine JL_m ?_; refine JL_m ?_; refine JL_callF' (Asks.cons (holds_of_mem am) (Asks.cons (holds_of_mem am) Asks.nil)) (agree_con (a := a) (b := b) (side := side) hka hkb) rfl ca8 ⟨rfl, rfl, rfl, rfl⟩ ?_; rintro _ _ ⟨ad28, cp28, be28, ce28, rfl, rfl⟩; refine JL_m ?_; refine JL_extract rfl rfl ?_; refine JL_extract rfl rfl ?_; refine JL_alloc z29 (fun b7 => ?_); refine JL_store (vs := [_, _, _]) 0 ty29 rfl rfl rfl (AllOne.cons rfl (AllOne.cons rfl (AllOne.cons rfl AllOne.nil))) rfl (Nat.le_of_ble_eq_true rfl) ?_; refine JL_assign rfl ?_; refine JL_du 46 [box _ _ [_, _, _]] [_, _, _, _] ?_; refine JC_sr ?_; refine JL_m ?_; refine JL_m ?_; refine JL_m ?_; refine JL_callF' (Asks.cons (holds_of_mem am) (Asks.cons (holds_of_mem am) Asks.nil)) (ragree_con (a := a) (b := b) (side := side) hka hkb) rfl ca9 ⟨rfl, rfl, rfl, rfl⟩ ?_; rintro _ _ ⟨ad35, cp35, be35, ce35, rfl, rfl⟩; refine JL_m ?_; refine JL_extract rfl rfl ?_; refine JL_extract rfl rfl ?_; refine JL_alloc z29 (fun b9 => ?_)
      refine JL_store (vs := [_, _, _]) 1 ty29 rfl rfl rfl (AllOne.cons rfl (AllOne.cons rfl (AllOne.cons rfl AllOne.nil))) rfl (Nat.le_of_ble_eq_true rfl) ?_; refine JL_assign rfl ?_; refine JL_du 46 [box _ _ [_, _, _], box _ _ [_, _, _]] [_, _, _, _, _, _] ?_; refine JC_sr ?_; refine JL_m ?_; refine JL_m ?_; refine JL_eql rfl rfl ?_; rw [decide_eq_true rfl]; refine JL_m ?_; refine JL_gy ?_; refine JL_loadA (vs := [_, _, _]) 0 ty29 rfl rfl ⟨rfl, rfl, rfl, trivial⟩ ?_; refine JL_gy ?_; refine JL_loadA (vs := [_, _, _]) 1 ty29 rfl rfl ⟨rfl, rfl, rfl, trivial⟩ ?_; refine JL_gy ?_; refine JL_callF' (Asks.cons (holds_of_mem am) (Asks.cons (holds_of_mem am) (Asks.cons (holds_of_mem am) (Asks.cons (holds_of_mem am) Asks.nil)))) (bfrac_con (o := agO a b side) (qs_agO _ _ _ hka)) rfl ca10 ⟨rfl, rfl, rfl⟩ ?_; rintro _ _ ⟨rfl, rfl⟩; refine JL_pick_t rfl rfl ?_; refine JL_assign rfl ?_; refine JL_du 46 [box _ _ [_, _, _], box _ _ [_, _, _]] [_, _, _, _, _, _] ?_; refine JC_ret ?_; refine JE_ret (vs := [_]) [] Tryz.results3 ⟨rfl, rfl⟩ ?_ ?_
      · exact ⟨rfl, rfl⟩
      · exact all_nil
    · refine JL_gy ?_; refine JL_not rfl ?_; rw [Bool.not_false]; refine JL_pick_f rfl rfl ?_; refine JL_du 46 [] [_, _] ?_; refine JC_true rfl ?_; refine JC_sr ?_; refine JL_callF' Asks.nil (awake18_con) rfl ca6 rfl ?_; rintro _ _ ⟨rfl, rfl⟩; refine JL_assign rfl ?_; refine JL_du 46 [] [_, _] ?_; refine JC_ret ?_; refine JE_then_ret ?_; refine JE_ret (vs := [_]) [] Tryz.results3 ⟨rfl, rfl⟩ ?_ ?_
      · exact ⟨rfl, rfl⟩
      · exact all_nil
  · refine JL_gy ?_; refine JL_not rfl ?_; rw [Bool.not_false]; refine JL_pick_f rfl rfl ?_; refine JL_m ?_; refine JL_gn ?_; refine JL_gn ?_; refine JL_gn ?_; refine JL_pick_t rfl rfl ?_; refine JL_du 46 [] [_, _] ?_; refine JC_true rfl ?_; refine JC_sr ?_; refine JL_callF' Asks.nil (awake18_con) rfl ca6 rfl ?_; rintro _ _ ⟨rfl, rfl⟩; refine JL_assign rfl ?_; refine JL_du 46 [] [_, _] ?_; refine JC_ret ?_; refine JE_then_ret ?_; refine JE_ret (vs := [_]) [] Tryz.results3 ⟨rfl, rfl⟩ ?_ ?_
    · exact ⟨rfl, rfl⟩
    · exact all_nil

end Go.Fw.K
