/- Walks through functions of the given program: each meets its contract. (Printed by a program of this repo.) -/
import Derived.Test.YtfkfmpfohaomhaaKC
import Derived.Test.YtfkfmpfohaomhaaK20
import Derived.Test.YtfkfmpfohaomhaaK23
import Derived.Test.YtfkfmpfohaomhaaProg
namespace Go.Fw.T2
open Go Go.RowKit Go.Proofs Go.Nat9 Go.Fw
attribute [local irreducible] JC JL JE
theorem ca13 : callable Try.prog 13 = true := by kernel_rfl
theorem ca14 : callable Try.prog 14 = true := by kernel_rfl
theorem ca15 : callable Try.prog 15 = true := by kernel_rfl
theorem ca16 : callable Try.prog 16 = true := by kernel_rfl
theorem ca17 : callable Try.prog 17 = true := by kernel_rfl
theorem ca18 : callable Try.prog 18 = true := by kernel_rfl
theorem ca19 : callable Try.prog 19 = true := by kernel_rfl
theorem ca20 : callable Try.prog 20 = true := by kernel_rfl
theorem ca21 : callable Try.prog 21 = true := by kernel_rfl
theorem ca22 : callable Try.prog 22 = true := by kernel_rfl
theorem ca7 : callable Try.prog 7 = true := by kernel_rfl
theorem ca8 : callable Try.prog 8 = true := by kernel_rfl
end Go.Fw.T2
namespace Go.Fw.K
open Go Go.RowKit Go.Proofs Go.Nat9 Go.Fw Go.Fw.T2
attribute [local irreducible] JC JL JE

set_option maxHeartbeats 4000000 in
set_option maxRecDepth 20000 in
theorem correspondenceMatches_con {ad1 ad2 : Option Addr} {c1 c2 : Nat} {a b : List Spc} (hc1 : a.length ≤ c1 ∧ c1 ≤ 9223372036854775807) (hc2 : b.length ≤ c2 ∧ c2 ≤ 9223372036854775807) {side : Int} (hs1 : -9223372036854775808 ≤ side) (hs2 : side ≤ 9223372036854775807) :
    ConF Try.prog 5 [.slice ad1 a.length c1, .slice ad2 b.length c2, .int .i64 side] [vCells ad1 (scells a), vCells ad2 (scells b)]
      (fun v φo => v = .bool true ∧ φo = []) := by
  have _ := hc1
  have _ := hc2
  have _ := hs1
  have _ := hs2
  refine ConF_of Try.func5 rfl 128 _ rfl rfl ?_; intro w0; refine JC_norm ⟨128, [], [_, _, _, _, _, _, _, _, _, _, _, _, _, _, _, _, _, _, _, _, _, _, _, _, _, _, _, _, _, _, _, _, _, _, _, _, _, _, _, _, _, _, _, _, _, _, _, _, _, _, _, _, _, _, _, _, _, _, _, _, _, _, _, _, _, _, _, _, _, _, _, _, _, _, _, _, _, _, _, _, _, _, _, _, _, _, _, _, _, _, _, _, _, _, _, _, _, _, _, _, _, _, _, _, _, _, _, _, _, _, _, _, _, _, _, _, _, _, _, _, _, _, _, _, _, _, _, _]⟩ [] [_, _] rfl rfl rfl ?_; refine JC_sr ?_; refine JL_assign rfl ?_; refine JL_du 128 [] [_, _] ?_; refine JC_seq ?_; refine JC_sr ?_; refine JL_callF' Asks.nil (awake18_con) rfl ca7 rfl ?_; rintro _ _ ⟨rfl, rfl⟩; refine JL_not rfl ?_; rw [Bool.not_true]; refine JL_m ?_; refine JL_gy ?_; refine JL_m ?_; refine JL_gy ?_; refine JL_callF' Asks.nil (few18_con (n := a.length)) rfl ca8 ⟨rfl, rfl⟩ ?_; rintro _ _ ⟨rfl, rfl⟩; refine JL_split (fun h27 => ?_) (fun h27 => ?_)
  · refine JL_gy ?_; refine JL_not rfl ?_; rw [Bool.not_true]; refine JL_pick_f rfl rfl ?_; refine JL_m ?_; refine JL_gy ?_; refine JL_m ?_; refine JL_gy ?_; refine JL_callF' Asks.nil (few18_con (n := b.length)) rfl ca8 ⟨rfl, rfl⟩ ?_; rintro _ _ ⟨rfl, rfl⟩; refine JL_split (fun h32 => ?_) (fun h32 => ?_)
    · refine JL_gy ?_; refine JL_not rfl ?_; rw [Bool.not_true]; refine JL_pick_f rfl rfl ?_; refine JL_du 128 [] [_, _] ?_; refine JC_false rfl ?_; refine JC_skip ?_; refine JE_then ?_; refine JC_seq ?_
      have hla := fewN_le h27
      have hlb := fewN_le h32
      have hna : a.length ≤ 1000000 := by omega
      have hnb : b.length ≤ 1000000 := by omega
      have hka : a.length ≤ 1000 := by omega
      have hkb : b.length ≤ 1000 := by omega
      refine JC_region ?_; refine JL_m ?_; refine JL_m ?_; refine JL_callF' (Asks.cons (holds_of_mem am) (Asks.cons (holds_of_mem am) Asks.nil)) (com_con (a := a) (b := b) hna hnb) rfl ca14 ⟨rfl, rfl, rfl⟩ ?_; rintro _ _ ⟨ad39, c39, rfl, hc39, rfl⟩; refine JL_m ?_; refine JL_extract rfl rfl ?_; refine JL_extract rfl rfl ?_; refine JL_assign rfl ?_; refine JL_assign rfl ?_; refine JL_du 128 [] [_, _, _] ?_; refine JC_sr ?_; refine JL_m ?_; refine JL_m ?_; refine JL_m ?_; refine JL_callF' (Asks.cons (holds_of_mem am) (Asks.cons (holds_of_mem am) Asks.nil)) (mat_con (a := a) (b := b) (side := side) hna hnb) rfl ca13 ⟨rfl, rfl, rfl, rfl⟩ ?_; rintro _ _ ⟨ad46, c46, rfl, hc46, rfl⟩; refine JL_m ?_; refine JL_extract rfl rfl ?_; refine JL_extract rfl rfl ?_; refine JL_assign rfl ?_; refine JL_assign rfl ?_; refine JL_du 128 [] [_, _, _, _] ?_; refine JC_sr ?_; refine JL_m ?_; refine JL_m ?_; refine JL_m ?_; refine JL_callF' (Asks.cons (holds_of_mem am) (Asks.cons (holds_of_mem am) Asks.nil)) (spl_con (a := a) (b := b) (side := side) hna hnb) rfl ca15 ⟨rfl, rfl, rfl, rfl⟩ ?_
      rintro _ _ ⟨ad53, c53, rfl, hc53, rfl⟩; refine JL_m ?_; refine JL_extract rfl rfl ?_; refine JL_extract rfl rfl ?_; refine JL_assign rfl ?_; refine JL_assign rfl ?_; refine JL_du 128 [] [_, _, _, _, _] ?_; refine JC_sr ?_; refine JL_m ?_; refine JL_m ?_; refine JL_m ?_; refine JL_callF' (Asks.cons (holds_of_mem am) (Asks.cons (holds_of_mem am) Asks.nil)) (lmp_con (a := a) (b := b) (side := side) hna hnb) rfl ca16 ⟨rfl, rfl, rfl, rfl⟩ ?_; rintro _ _ ⟨ad60, c60, rfl, hc60, rfl⟩; rw [errL_eq]; refine JL_m ?_; refine JL_extract rfl rfl ?_; refine JL_extract rfl rfl ?_; refine JL_assign rfl ?_; refine JL_assign rfl ?_; refine JL_du 128 [] [_, _, _, _, _, _] ?_; refine JC_sr ?_; refine JL_m ?_; refine JL_m ?_; refine JL_callF' (Asks.cons (holds_of_mem am) (Asks.cons (holds_of_mem am) Asks.nil)) (rcom_con (a := a) (b := b) hka hkb) rfl ca17 ⟨rfl, rfl, rfl⟩ ?_; rintro _ _ ⟨ad66, c66, rfl, hc66, rfl⟩; refine JL_m ?_; refine JL_extract rfl rfl ?_; refine JL_extract rfl rfl ?_; refine JL_assign rfl ?_; refine JL_assign rfl ?_; refine JL_du 128 [] [_, _, _, _, _, _, _] ?_; refine JC_seq ?_
      refine JC_region ?_; refine JL_m ?_; refine JL_m ?_; refine JL_m ?_; refine JL_callF' (Asks.cons (holds_of_mem am) (Asks.cons (holds_of_mem am) Asks.nil)) (rmat_con (a := a) (b := b) (side := side) hka hkb) rfl ca18 ⟨rfl, rfl, rfl, rfl⟩ ?_; rintro _ _ ⟨ad73, c73, rfl, hc73, rfl⟩; refine JL_m ?_; refine JL_extract rfl rfl ?_; refine JL_extract rfl rfl ?_; refine JL_assign rfl ?_; refine JL_assign rfl ?_; refine JL_du 128 [] [_, _, _, _, _, _, _, _] ?_; refine JC_sr ?_; refine JL_m ?_; refine JL_m ?_; refine JL_m ?_; refine JL_callF' (Asks.cons (holds_of_mem am) (Asks.cons (holds_of_mem am) Asks.nil)) (rspl_con (a := a) (b := b) (side := side) hka hkb) rfl ca19 ⟨rfl, rfl, rfl, rfl⟩ ?_; rintro _ _ ⟨ad80, c80, rfl, hc80, rfl⟩; refine JL_m ?_; refine JL_extract rfl rfl ?_; refine JL_extract rfl rfl ?_; refine JL_assign rfl ?_; refine JL_assign rfl ?_; refine JL_du 128 [] [_, _, _, _, _, _, _, _, _] ?_; refine JC_sr ?_; refine JL_m ?_; refine JL_m ?_; refine JL_m ?_
      refine JL_callF' (Asks.cons (holds_of_mem am) (Asks.cons (holds_of_mem am) Asks.nil)) (rlmp_con (a := a) (b := b) (side := side) hka hkb) rfl ca20 ⟨rfl, rfl, rfl, rfl⟩ ?_; rintro _ _ ⟨ad87, c87, rfl, hc87, rfl⟩; refine JL_m ?_; refine JL_extract rfl rfl ?_; refine JL_extract rfl rfl ?_; refine JL_assign rfl ?_; refine JL_assign rfl ?_; refine JL_du 128 [] [_, _, _, _, _, _, _, _, _, _] ?_; refine JC_sr ?_; refine JL_m ?_; refine JL_m ?_; refine JL_eql rfl rfl ?_; rw [decide_eq_true rfl]; refine JL_m ?_; refine JL_gy ?_; refine JL_m ?_; refine JL_gy ?_; refine JL_m ?_; refine JL_gy ?_; refine JL_eql rfl rfl ?_; rw [decide_eq_true rfl]; refine JL_pick_t rfl rfl ?_; refine JL_m ?_; refine JL_gy ?_; refine JL_m ?_; refine JL_gy ?_; refine JL_m ?_; refine JL_gy ?_; refine JL_eql rfl rfl ?_; rw [decide_eq_true rfl]; refine JL_pick_t rfl rfl ?_; refine JL_m ?_; refine JL_gy ?_; refine JL_m ?_; refine JL_gy ?_; refine JL_m ?_; refine JL_gy ?_; refine JL_eql rfl rfl ?_; rw [decide_eq_true rfl]; refine JL_pick_t rfl rfl ?_; refine JL_m ?_; refine JL_gy ?_
      refine JL_m ?_; refine JL_gy ?_; refine JL_m ?_; refine JL_gy ?_; refine JL_callF' (Asks.cons (holds_of_mem am) (Asks.cons (holds_of_mem am) Asks.nil)) (bints_con (L := comS a b) (by have := comS_len a b; omega)) rfl ca21 ⟨rfl, rfl, rfl⟩ ?_; rintro _ _ ⟨rfl, rfl⟩; refine JL_pick_t rfl rfl ?_; refine JL_m ?_; refine JL_gy ?_; refine JL_m ?_; refine JL_gy ?_; refine JL_m ?_; refine JL_gy ?_; refine JL_callF' (Asks.cons (holds_of_mem am) (Asks.cons (holds_of_mem am) Asks.nil)) (bents_con (l := mtS a b side) (by have := mtS_len a b side; omega)) rfl ca22 ⟨rfl, rfl, rfl⟩ ?_; rintro _ _ ⟨rfl, rfl⟩; refine JL_pick_t rfl rfl ?_; refine JL_m ?_; refine JL_gy ?_; refine JL_m ?_; refine JL_gy ?_; refine JL_m ?_; refine JL_gy ?_; refine JL_callF' (Asks.cons (holds_of_mem am) (Asks.cons (holds_of_mem am) Asks.nil)) (bints_con (L := splS a b side) (by have := splS_len a b side; omega)) rfl ca21 ⟨rfl, rfl, rfl⟩ ?_; rintro _ _ ⟨rfl, rfl⟩; refine JL_pick_t rfl rfl ?_; refine JL_m ?_; refine JL_gy ?_; refine JL_m ?_; refine JL_gy ?_; refine JL_m ?_; refine JL_gy ?_
      refine JL_callF' (Asks.cons (holds_of_mem am) (Asks.cons (holds_of_mem am) Asks.nil)) (bints_con (L := lmpS a b side) (by have := lmpS_len a b side; omega)) rfl ca21 ⟨rfl, rfl, rfl⟩ ?_; rintro _ _ ⟨rfl, rfl⟩; refine JL_pick_t rfl rfl ?_; refine JL_assign rfl ?_; refine JL_du 128 [] [_, _, _, _, _, _, _, _, _, _] ?_; refine JC_ret ?_; refine JE_ret (vs := [_]) [] Try.results5 ⟨rfl, rfl⟩ ?_ ?_
      · exact ⟨rfl, rfl⟩
      · exact all_nil
    · refine JL_gy ?_; refine JL_not rfl ?_; rw [Bool.not_false]; refine JL_pick_f rfl rfl ?_; refine JL_du 128 [] [_, _] ?_; refine JC_true rfl ?_; refine JC_sr ?_; refine JL_callF' Asks.nil (awake18_con) rfl ca7 rfl ?_; rintro _ _ ⟨rfl, rfl⟩; refine JL_assign rfl ?_; refine JL_du 128 [] [_, _] ?_; refine JC_ret ?_; refine JE_then_ret ?_; refine JE_ret (vs := [_]) [] Try.results5 ⟨rfl, rfl⟩ ?_ ?_
      · exact ⟨rfl, rfl⟩
      · exact all_nil
  · refine JL_gy ?_; refine JL_not rfl ?_; rw [Bool.not_false]; refine JL_pick_f rfl rfl ?_; refine JL_m ?_; refine JL_gn ?_; refine JL_gn ?_; refine JL_gn ?_; refine JL_pick_t rfl rfl ?_; refine JL_du 128 [] [_, _] ?_; refine JC_true rfl ?_; refine JC_sr ?_; refine JL_callF' Asks.nil (awake18_con) rfl ca7 rfl ?_; rintro _ _ ⟨rfl, rfl⟩; refine JL_assign rfl ?_; refine JL_du 128 [] [_, _] ?_; refine JC_ret ?_; refine JE_then_ret ?_; refine JE_ret (vs := [_]) [] Try.results5 ⟨rfl, rfl⟩ ?_ ?_
    · exact ⟨rfl, rfl⟩
    · exact all_nil

end Go.Fw.K
