/- Walks through functions of the given program: each meets its contract. (Printed by a program of this repo.) -/
import Derived.Test.YtfkfmpfohaomhaaK22
import Derived.Test.YtfkfmpfohaomhaaK23
import Derived.Test.YtfkfmpfohaomhaaProg
namespace Go.Fw.T1
open Go Go.RowKit Go.Proofs Go.Nat9 Go.Fw
attribute [local irreducible] JC JL JE
theorem ca10 : callable Try.prog 10 = true := by kernel_rfl
theorem ca11 : callable Try.prog 11 = true := by kernel_rfl
theorem ca12 : callable Try.prog 12 = true := by kernel_rfl
theorem ca7 : callable Try.prog 7 = true := by kernel_rfl
theorem ca8 : callable Try.prog 8 = true := by kernel_rfl
theorem ca9 : callable Try.prog 9 = true := by kernel_rfl
theorem sl22 : slOf Try.prog 22 = some (39, 7, 56, [.int .i64 0, .int .i64 0, .int .i64 0, .int .i64 0, .int .i64 0, .int .i64 0, .int .i64 0]) := by kernel_rfl
end Go.Fw.T1
namespace Go.Fw.K
open Go Go.RowKit Go.Proofs Go.Nat9 Go.Fw Go.Fw.T1
attribute [local irreducible] JC JL JE

set_option maxHeartbeats 4000000 in
theorem correspondenceBest_con {ad1 ad2 : Option Addr} {c1 c2 : Nat} {a b : List Spc} (hc1 : a.length ≤ c1 ∧ c1 ≤ 9223372036854775807) (hc2 : b.length ≤ c2 ∧ c2 ≤ 9223372036854775807) {side : Int} (hs1 : -9223372036854775808 ≤ side) (hs2 : side ≤ 9223372036854775807) :
    ConF Try.prog 3 [.slice ad1 a.length c1, .slice ad2 b.length c2, .int .i64 side] [vCells ad1 (scells a), vCells ad2 (scells b)]
      (fun v φo => v = .bool true ∧ φo = []) := by
  have _ := hc1
  have _ := hc2
  have _ := hs1
  have _ := hs2
  refine ConF_of Try.func3 rfl 73 _ rfl rfl ?_; intro w0; refine JC_norm ⟨73, [], [_, _, _, _, _, _, _, _, _, _, _, _, _, _, _, _, _, _, _, _, _, _, _, _, _, _, _, _, _, _, _, _, _, _, _, _, _, _, _, _, _, _, _, _, _, _, _, _, _, _, _, _, _, _, _, _, _, _, _, _, _, _, _, _, _, _, _, _, _, _, _, _, _]⟩ [] [_, _] rfl rfl rfl ?_; refine JC_sr ?_; refine JL_assign rfl ?_; refine JL_du 73 [] [_, _] ?_; refine JC_seq ?_; refine JC_sr ?_; refine JL_callF' Asks.nil (awake18_con) rfl ca7 rfl ?_; rintro _ _ ⟨rfl, rfl⟩; refine JL_not rfl ?_; rw [Bool.not_true]; refine JL_m ?_; refine JL_gy ?_; refine JL_m ?_; refine JL_gy ?_; refine JL_callF' Asks.nil (few18_con (n := a.length)) rfl ca8 ⟨rfl, rfl⟩ ?_; rintro _ _ ⟨rfl, rfl⟩; refine JL_split (fun h19 => ?_) (fun h19 => ?_)
  · refine JL_gy ?_; refine JL_not rfl ?_; rw [Bool.not_true]; refine JL_pick_f rfl rfl ?_; refine JL_m ?_; refine JL_gy ?_; refine JL_m ?_; refine JL_gy ?_; refine JL_callF' Asks.nil (few18_con (n := b.length)) rfl ca8 ⟨rfl, rfl⟩ ?_; rintro _ _ ⟨rfl, rfl⟩; refine JL_split (fun h24 => ?_) (fun h24 => ?_)
    · refine JL_gy ?_; refine JL_not rfl ?_; rw [Bool.not_true]; refine JL_pick_f rfl rfl ?_; refine JL_du 73 [] [_, _] ?_; refine JC_false rfl ?_; refine JC_skip ?_; refine JE_then ?_; refine JC_seq ?_
      have hla := fewN_le h19
      have hlb := fewN_le h24
      have hna : a.length ≤ 1000000 := by omega
      have hnb : b.length ≤ 1000000 := by omega
      have hka : a.length ≤ 1000 := by omega
      have hkb : b.length ≤ 1000 := by omega
      refine JC_region ?_; refine JL_build0 sl22 (fun g28 => ?_); refine JL_m ?_; refine JL_append (news := scells a) 0 sl22 rfl (by decide) rfl rfl rfl (scells_length a) (Reads.view am) (allOne_scells a) (by omega) (by omega) (fun ad30 cap30 hc30 => ?_); refine JL_norm _ [osl _ _ _ _ _ _] [_, _] rfl rfl rfl ?_; rw [Nat.zero_add, List.nil_append]; refine JL_build0 sl22 (fun g31 => ?_); refine JL_m ?_; refine JL_append (news := scells b) 1 sl22 rfl (by decide) rfl rfl rfl (scells_length b) (Reads.view am) (allOne_scells b) (by omega) (by omega) (fun ad33 cap33 hc33 => ?_); refine JL_norm _ [osl _ _ _ _ _ _, osl _ _ _ _ _ _] [_, _] rfl rfl rfl ?_; rw [Nat.zero_add, List.nil_append]; refine JL_assign rfl ?_; refine JL_assign rfl ?_; refine JL_du 73 [osl _ _ _ _ _ _, osl _ _ _ _ _ _] [_, _] ?_; refine JC_sr ?_; refine JL_m ?_; refine JL_m ?_; refine JL_m ?_
      refine JL_callF' (Asks.cons (by first | exact holds_of_mem am | (exact holds_of_own 0 rfl) | (exact holds_of_own 1 rfl)) (Asks.cons (by first | exact holds_of_mem am | (exact holds_of_own 0 rfl) | (exact holds_of_own 1 rfl)) Asks.nil)) (best_con (a := a) (b := b) (side := side) hna hnb) rfl ca9 ⟨rfl, rfl, rfl, rfl⟩ ?_; rintro _ _ ⟨ad38, c38, rfl, rfl⟩; refine JL_m ?_; refine JL_extract rfl rfl ?_; refine JL_extract rfl rfl ?_; refine JL_extract rfl rfl ?_; refine JL_assign rfl ?_; refine JL_assign rfl ?_; refine JL_assign rfl ?_; refine JL_du 73 [osl _ _ _ _ _ _, osl _ _ _ _ _ _] [_, _, _] ?_; refine JC_sr ?_; refine JL_m ?_; refine JL_m ?_; refine JL_m ?_; refine JL_callF' (Asks.cons (by first | exact holds_of_mem am | (exact holds_of_own 0 rfl) | (exact holds_of_own 1 rfl)) (Asks.cons (by first | exact holds_of_mem am | (exact holds_of_own 0 rfl) | (exact holds_of_own 1 rfl)) Asks.nil)) (rbest_con (a := a) (b := b) (side := side) hka hkb) rfl ca10 ⟨rfl, rfl, rfl, rfl⟩ ?_; rintro _ _ ⟨ad46, c46, rfl, rfl⟩; refine JL_m ?_; refine JL_extract rfl rfl ?_; refine JL_extract rfl rfl ?_; refine JL_extract rfl rfl ?_
      refine JL_assign rfl ?_; refine JL_assign rfl ?_; refine JL_assign rfl ?_; refine JL_du 73 [osl _ _ _ _ _ _, osl _ _ _ _ _ _] [_, _, _, _] ?_; refine JC_sr ?_; refine JL_m ?_; refine JL_m ?_; refine JL_eql rfl rfl ?_; rw [decide_eq_true rfl]; refine JL_m ?_; refine JL_gy ?_; refine JL_m ?_; refine JL_gy ?_; refine JL_m ?_; refine JL_gy ?_; refine JL_eql rfl rfl ?_; rw [decide_eq_true rfl]; refine JL_pick_t rfl rfl ?_; refine JL_m ?_; refine JL_gy ?_; refine JL_m ?_; refine JL_gy ?_; refine JL_m ?_; refine JL_gy ?_; refine JL_callF' (Asks.cons (by first | exact holds_of_mem am | (exact holds_of_own 0 rfl) | (exact holds_of_own 1 rfl)) (Asks.cons (by first | exact holds_of_mem am | (exact holds_of_own 0 rfl) | (exact holds_of_own 1 rfl)) Asks.nil)) (bpairs_con (l := bstS a b side) (by have := bstS_len a b side; omega)) rfl ca11 ⟨rfl, rfl, rfl⟩ ?_; rintro _ _ ⟨rfl, rfl⟩; refine JL_pick_t rfl rfl ?_; refine JL_m ?_; refine JL_gy ?_; refine JL_m ?_; refine JL_gy ?_; refine JL_m ?_; refine JL_gy ?_
      refine JL_callF' (Asks.cons (by first | exact holds_of_mem am | (exact holds_of_own 0 rfl) | (exact holds_of_own 1 rfl)) (Asks.cons (by first | exact holds_of_mem am | (exact holds_of_own 0 rfl) | (exact holds_of_own 1 rfl)) Asks.nil)) (bspec_con (l := a) hna) rfl ca12 ⟨rfl, rfl, rfl⟩ ?_; rintro _ _ ⟨rfl, rfl⟩; refine JL_pick_t rfl rfl ?_; refine JL_m ?_; refine JL_gy ?_; refine JL_m ?_; refine JL_gy ?_; refine JL_m ?_; refine JL_gy ?_; refine JL_callF' (Asks.cons (by first | exact holds_of_mem am | (exact holds_of_own 0 rfl) | (exact holds_of_own 1 rfl)) (Asks.cons (by first | exact holds_of_mem am | (exact holds_of_own 0 rfl) | (exact holds_of_own 1 rfl)) Asks.nil)) (bspec_con (l := b) hnb) rfl ca12 ⟨rfl, rfl, rfl⟩ ?_; rintro _ _ ⟨rfl, rfl⟩; refine JL_pick_t rfl rfl ?_; refine JL_assign rfl ?_; refine JL_du 73 [osl _ _ _ _ _ _, osl _ _ _ _ _ _] [_, _, _, _] ?_; refine JC_ret ?_; refine JE_ret (vs := [_]) [] Try.results3 ⟨rfl, rfl⟩ ?_ ?_
      · exact ⟨rfl, rfl⟩
      · exact all_nil
    · refine JL_gy ?_; refine JL_not rfl ?_; rw [Bool.not_false]; refine JL_pick_f rfl rfl ?_; refine JL_du 73 [] [_, _] ?_; refine JC_true rfl ?_; refine JC_sr ?_; refine JL_callF' Asks.nil (awake18_con) rfl ca7 rfl ?_; rintro _ _ ⟨rfl, rfl⟩; refine JL_assign rfl ?_; refine JL_du 73 [] [_, _] ?_; refine JC_ret ?_; refine JE_then_ret ?_; refine JE_ret (vs := [_]) [] Try.results3 ⟨rfl, rfl⟩ ?_ ?_
      · exact ⟨rfl, rfl⟩
      · exact all_nil
  · refine JL_gy ?_; refine JL_not rfl ?_; rw [Bool.not_false]; refine JL_pick_f rfl rfl ?_; refine JL_m ?_; refine JL_gn ?_; refine JL_gn ?_; refine JL_gn ?_; refine JL_pick_t rfl rfl ?_; refine JL_du 73 [] [_, _] ?_; refine JC_true rfl ?_; refine JC_sr ?_; refine JL_callF' Asks.nil (awake18_con) rfl ca7 rfl ?_; rintro _ _ ⟨rfl, rfl⟩; refine JL_assign rfl ?_; refine JL_du 73 [] [_, _] ?_; refine JC_ret ?_; refine JE_then_ret ?_; refine JE_ret (vs := [_]) [] Try.results3 ⟨rfl, rfl⟩ ?_ ?_
    · exact ⟨rfl, rfl⟩
    · exact all_nil

end Go.Fw.K
