/- Walks through functions of the given program: each meets its contract. (Printed by a program of this repo.) -/
import Derived.Test.YtmambmpohkollaaGreatDoorE2
import Derived.Test.YtmambmpohkollaaGreatDoorProg
namespace Go.Fw.T5
open Go Go.RowKit Go.Proofs Go.Nat9 Go.Fw
attribute [local irreducible] JC JL JE
theorem ca12 : callable Tryz.prog 12 = true := by kernel_rfl
theorem ca17 : callable Tryz.prog 17 = true := by kernel_rfl
theorem ca18 : callable Tryz.prog 18 = true := by kernel_rfl
theorem ca19 : callable Tryz.prog 19 = true := by kernel_rfl
theorem ca8 : callable Tryz.prog 8 = true := by kernel_rfl
theorem ca9 : callable Tryz.prog 9 = true := by kernel_rfl
theorem ty25 : tyOf Tryz.prog 25 = some (true, 3) := by kernel_rfl
theorem z25 : zeroOf Tryz.prog 25 = some [.slice none 0 0, .slice none 0 0, .slice none 0 0] := by kernel_rfl
end Go.Fw.T5
namespace Go.Fw.K
open Go Go.RowKit Go.Proofs Go.Nat9 Go.Fw Go.Fw.T5
attribute [local irreducible] JC JL JE

open Go.Fw.Cn
set_option maxHeartbeats 4000000 in
theorem canonicalMirrors_con {a1 a2 a3 : Option Addr} {c1 c2 c3 : Nat} {O R : List Int} {K : List Cn.Lk} :
    ConF Tryz.prog 4 [.agg #[.slice a1 O.length c1, .slice a2 R.length c2, .slice a3 K.length c3]] [vCells a1 (i64s O), vCells a2 (i64s R), vCells a3 (lks K)]
      (fun v φo => v = .bool (true) ∧ φo = []) := by
 refine ConF_of Tryz.func4 rfl 74 (_ :: rp 73) rfl rfl ?_; intro w0; refine JC_st [] [_, _, _] ?_; refine JC_sr ?_; refine JL_box rfl rfl (fun b1 => ?_); refine JL_a ?_; refine JL_du 74 [box _ _ [_, _, _]] [_, _, _] ?_; refine JC_seq ?_; refine JC_sr ?_; refine JL_callF' Asks.nil (awake_con) rfl ca8 rfl ?_; rintro _ _ ⟨rfl, rfl⟩; refine JL_not rfl ?_; rw [Bool.not_true]; refine JL_m ?_; refine JL_gy ?_; refine JL_loadA (vs := [_, _, _]) 0 ty25 rfl rfl ⟨rfl, rfl, rfl, trivial⟩ ?_; refine JL_gy ?_; refine JL_callF' Asks.nil (few_con) rfl ca9 ⟨rfl, rfl⟩ ?_; rintro _ _ ⟨rfl, rfl⟩; refine JL_split (fun h17 => ?_) (fun h17 => ?_)
 ·refine JL_gy ?_; refine JL_not rfl ?_; rw [Bool.not_true]; refine JL_pick_f rfl rfl ?_; refine JL_du 74 [box _ _ [_, _, _]] [_, _, _] ?_; refine JC_false rfl ?_; refine JC_skip ?_; refine JE_then ?_; refine JC_seq ?_
  have hfw_h17 := h17
  unfold fewG at hfw_h17
  obtain ⟨bO_h17, bR_h17, bK_h17, _⟩ := hfw_h17; refine JC_region ?_; refine JL_loadA (vs := [_, _, _]) 0 ty25 rfl rfl ⟨rfl, rfl, rfl, trivial⟩ ?_; refine JL_callF' (Asks.cons (holds_of_mem am) (Asks.cons (holds_of_mem am) (Asks.cons (holds_of_mem am) Asks.nil))) (mir_con om om om) rfl ca17 ⟨rfl, rfl⟩ ?_; rintro _ _ ⟨x123, d123, x223, d223, x323, d323, O23, R23, K23, e23, rfl, rfl, hm23⟩; refine JL_m ?_; refine JL_extract (v := .agg #[.slice x123 O23.length d123, .slice x223 R23.length d223, .slice x323 K23.length d323]) rfl rfl ?_; refine JL_extract (v := .int .i64 e23) rfl rfl ?_; refine JL_alloc z25 (fun b3 => ?_); refine JL_store (vs := [_, _, _]) 1 ty25 rfl rfl rfl ao3 rfl bleq ?_; refine JL_a ?_; refine JL_du 74 [box _ _ [_, _, _], box _ _ [_, _, _]] [_, _, _, _, _, _] ?_; refine JC_sr ?_; refine JL_loadA (vs := [_, _, _]) 0 ty25 rfl rfl ⟨rfl, rfl, rfl, trivial⟩ ?_
  refine JL_callF' (Asks.cons (holds_of_mem am) (Asks.cons (holds_of_mem am) (Asks.cons (holds_of_mem am) Asks.nil))) (rmir_con om om om) rfl ca18 ⟨rfl, rfl⟩ ?_; rintro _ _ ⟨x128, d128, x228, d228, x328, d328, O28, R28, K28, e28, rfl, rfl, hm28⟩; refine JL_m ?_; refine JL_extract (v := .agg #[.slice x128 O28.length d128, .slice x228 R28.length d228, .slice x328 K28.length d328]) rfl rfl ?_; refine JL_extract (v := .int .i64 e28) rfl rfl ?_; refine JL_alloc z25 (fun b5 => ?_); refine JL_store (vs := [_, _, _]) 2 ty25 rfl rfl rfl ao3 rfl bleq ?_; refine JL_a ?_; refine JL_du 74 [box _ _ [_, _, _], box _ _ [_, _, _], box _ _ [_, _, _]] [_, _, _, _, _, _, _, _, _] ?_; refine JC_seq ?_; refine JC_seq ?_; obtain ⟨q1, q2, q3, q4⟩ := hm23.uniq hm28; rw [q1, q2, q3, q4]; obtain ⟨l1, l2, l3⟩ := mirS_len hm23; refine JC_region ?_; refine JL_m ?_; refine JL_m ?_; refine JL_neq rfl rfl ?_; refine JL_split (fun h33 => ?_) (fun h33 => ?_)
  · exact absurd rfl h33
  ·refine JL_m ?_; refine JL_gy ?_; refine JL_loadA (vs := [_, _, _]) 1 ty25 rfl rfl ⟨rfl, rfl, rfl, trivial⟩ ?_; refine JL_gy ?_; refine JL_loadA (vs := [_, _, _]) 2 ty25 rfl rfl ⟨rfl, rfl, rfl, trivial⟩ ?_; refine JL_gy ?_; refine JL_callF' (Asks.cons (holds_of_mem am) (Asks.cons (holds_of_mem am) (Asks.cons (holds_of_mem am) (Asks.cons (holds_of_mem am) (Asks.cons (holds_of_mem am) (Asks.cons (holds_of_mem am) Asks.nil)))))) (bgrsT_con om om om) rfl ca19 ⟨rfl, rfl, rfl⟩ ?_; rintro _ _ ⟨rfl, rfl⟩; refine JL_gy ?_; refine JL_not rfl ?_; rw [Bool.not_true]; refine JL_pick_f rfl rfl ?_; refine JL_du 74 [box _ _ [_, _, _], box _ _ [_, _, _], box _ _ [_, _, _]] [_, _, _, _, _, _, _, _, _] ?_; refine JC_false rfl ?_; refine JC_skip ?_; refine JE_then ?_; refine JC_seq ?_; refine JC_sr ?_; refine JL_m ?_; refine JL_neq rfl rfl ?_; refine JL_split (fun h41 => ?_) (fun h41 => ?_)
   ·refine JL_dv 74 ?_; refine JC_true rfl ?_; refine JC_sr ?_; refine JL_a ?_; refine JL_dv 74 ?_; refine JC_ret ?_; refine JE_then_ret ?_; refine JE_ret (vs := [_]) [] Tryz.results4 ⟨rfl, rfl⟩ ?_ ?_
    · exact ⟨rfl, rfl⟩
    · exact all_nil
   ·refine JL_dv 74 ?_; refine JC_false rfl ?_; refine JC_skip ?_; refine JE_then ?_; refine JC_seq ?_; obtain ⟨hv, rfl, rfl, rfl⟩ := hm23.ok (Classical.not_not.1 h41)
    have hml := mrK_len K
    refine JC_region ?_; refine JL_loadA (vs := [_, _, _]) 1 ty25 rfl rfl ⟨rfl, rfl, rfl, trivial⟩ ?_; refine JL_callF' (Asks.cons (holds_of_mem am) (Asks.cons (holds_of_mem am) (Asks.cons (holds_of_mem am) Asks.nil))) (mir_con om om om) rfl ca17 ⟨rfl, rfl⟩ ?_; rintro _ _ ⟨x144, d144, x244, d244, x344, d344, O44, R44, K44, e44, rfl, rfl, hm44⟩; refine JL_m ?_; refine JL_extract (v := .agg #[.slice x144 O44.length d144, .slice x244 R44.length d244, .slice x344 K44.length d344]) rfl rfl ?_; refine JL_extract (v := .int .i64 e44) rfl rfl ?_; refine JL_alloc z25 (fun b7 => ?_); refine JL_store (vs := [_, _, _]) 3 ty25 rfl rfl rfl ao3 rfl bleq ?_; refine JL_a ?_; refine JL_du 74 [box _ _ [_, _, _], box _ _ [_, _, _], box _ _ [_, _, _], box _ _ [_, _, _]] [_, _, _, _, _, _, _, _, _, _, _, _] ?_; refine JC_seq ?_; obtain ⟨s1, s2, s3, s4⟩ := mir_back hv hm44; rw [s1, s2, s3, s4]; refine JC_region ?_; refine JL_loadA (vs := [_, _, _]) 0 ty25 rfl rfl ⟨rfl, rfl, rfl, trivial⟩ ?_
    refine JL_callF' (Asks.cons (holds_of_mem am) (Asks.cons (holds_of_mem am) (Asks.cons (holds_of_mem am) Asks.nil))) (sym_con (O := O) (R := R) (K := K) om om om) rfl ca12 ⟨rfl, rfl⟩ ?_; rintro _ _ ⟨n49, rfl, rfl, hn49⟩; refine JL_m ?_; refine JL_extract (v := .int .i64 (n49 : Nat)) rfl rfl ?_; refine JL_extract (v := .int .i64 (errG O R K)) rfl rfl ?_; refine JL_a ?_; refine JL_a ?_; refine JL_du 74 [box _ _ [_, _, _], box _ _ [_, _, _], box _ _ [_, _, _], box _ _ [_, _, _]] [_, _, _, _, _, _, _, _, _, _, _, _] ?_; refine JC_sr ?_; refine JL_loadA (vs := [_, _, _]) 1 ty25 rfl rfl ⟨rfl, rfl, rfl, trivial⟩ ?_; refine JL_callF' (Asks.cons (holds_of_mem am) (Asks.cons (holds_of_mem am) (Asks.cons (holds_of_mem am) Asks.nil))) (sym_con (O := R) (R := O) (K := mrK K) om om om) rfl ca12 ⟨rfl, rfl⟩ ?_; rintro _ _ ⟨n54, rfl, rfl, hn54⟩; refine JL_m ?_; refine JL_extract (v := .int .i64 (n54 : Nat)) rfl rfl ?_; refine JL_extract (v := .int .i64 (errG R O (mrK K))) rfl rfl ?_; refine JL_a ?_; refine JL_a ?_
    refine JL_du 74 [box _ _ [_, _, _], box _ _ [_, _, _], box _ _ [_, _, _], box _ _ [_, _, _]] [_, _, _, _, _, _, _, _, _, _, _, _] ?_; refine JC_seq ?_
    have hnn : n49 = n54 := by rw [hn49, hn54, errG_mr hv, syms_mr]
    refine JC_region ?_; refine JL_m ?_; refine JL_eql rfl rfl ?_; refine JL_split (fun h58 => ?_) (fun h58 => ?_)
    ·refine JL_m ?_; refine JL_gy ?_; refine JL_loadA (vs := [_, _, _]) 3 ty25 rfl rfl ⟨rfl, rfl, rfl, trivial⟩ ?_; refine JL_gy ?_; refine JL_loadA (vs := [_, _, _]) 0 ty25 rfl rfl ⟨rfl, rfl, rfl, trivial⟩ ?_; refine JL_gy ?_; refine JL_callF' (Asks.cons (holds_of_mem am) (Asks.cons (holds_of_mem am) (Asks.cons (holds_of_mem am) (Asks.cons (holds_of_mem am) (Asks.cons (holds_of_mem am) (Asks.cons (holds_of_mem am) Asks.nil)))))) (bgrsT_con om om om) rfl ca19 ⟨rfl, rfl, rfl⟩ ?_; rintro _ _ ⟨rfl, rfl⟩; refine JL_pick_t rfl rfl ?_; refine JL_m ?_; refine JL_gy ?_; refine JL_m ?_; refine JL_gy ?_; refine JL_m ?_; refine JL_gy ?_; refine JL_eql rfl rfl ?_; refine JL_split (fun h67 => ?_) (fun h67 => ?_)
     ·refine JL_pick_t rfl rfl ?_; refine JL_m ?_; refine JL_gy ?_; refine JL_m ?_; refine JL_gy ?_; refine JL_m ?_; refine JL_gy ?_; refine JL_eql rfl rfl ?_; refine JL_split (fun h72 => ?_) (fun h72 => ?_)
      ·refine JL_pick_t rfl rfl ?_; refine JL_a ?_; refine JL_du 74 [box _ _ [_, _, _], box _ _ [_, _, _], box _ _ [_, _, _], box _ _ [_, _, _]] [_, _, _, _, _, _, _, _, _, _, _, _] ?_; refine JC_ret ?_; refine JE_ret (vs := [_]) [] Tryz.results4 ⟨rfl, rfl⟩ ?_ ?_
       · exact ⟨rfl, rfl⟩
       · exact all_nil
      · exact absurd (by rw [hnn]) h72
     · exact absurd (errG_mr hv).symm h67
    · exact absurd rfl h58
 ·refine JL_gy ?_; refine JL_not rfl ?_; rw [Bool.not_false]; refine JL_pick_f rfl rfl ?_; refine JL_du 74 [box _ _ [_, _, _]] [_, _, _] ?_; refine JC_true rfl ?_; refine JC_sr ?_; refine JL_callF' Asks.nil (awake_con) rfl ca8 rfl ?_; rintro _ _ ⟨rfl, rfl⟩; refine JL_a ?_; refine JL_du 74 [box _ _ [_, _, _]] [_, _, _] ?_; refine JC_ret ?_; refine JE_then_ret ?_; refine JE_ret (vs := [_]) [] Tryz.results4 ⟨rfl, rfl⟩ ?_ ?_
  · exact ⟨rfl, rfl⟩
  · exact all_nil

end Go.Fw.K
