/- Walks through functions of the given program: each meets its contract. (Printed by a program of this repo.) -/
import Derived.Test.YtmambmpohkollaaGreatDoorE3
import Derived.Test.YtmambmpohkollaaGreatDoorProg
namespace Go.Fw.T6
open Go Go.RowKit Go.Proofs Go.Nat9 Go.Fw
attribute [local irreducible] JC JL JE
theorem ca10 : callable Tryz.prog 10 = true := by kernel_rfl
theorem ca11 : callable Tryz.prog 11 = true := by kernel_rfl
theorem ca16 : callable Tryz.prog 16 = true := by kernel_rfl
theorem ca24 : callable Tryz.prog 24 = true := by kernel_rfl
theorem ca26 : callable Tryz.prog 26 = true := by kernel_rfl
theorem ca8 : callable Tryz.prog 8 = true := by kernel_rfl
theorem ca9 : callable Tryz.prog 9 = true := by kernel_rfl
theorem fo25_2 : fOf Tryz.prog 25 2 = some 2 := by kernel_rfl
theorem sl22 : slOf Tryz.prog 22 = some (3, 1, 8, [.int .i64 0]) := by kernel_rfl
theorem sl23 : slOf Tryz.prog 23 = some (66, 3, 24, [.int .i64 0, .int .i64 0, .int .i64 0]) := by kernel_rfl
theorem ty23 : tyOf Tryz.prog 23 = some (false, 1) := by kernel_rfl
theorem ty25 : tyOf Tryz.prog 25 = some (true, 3) := by kernel_rfl
theorem ub4 : Tryz.prog.underlying 4 = some .bool := by kernel_rfl
theorem z25 : zeroOf Tryz.prog 25 = some [.slice none 0 0, .slice none 0 0, .slice none 0 0] := by kernel_rfl
end Go.Fw.T6
namespace Go.Fw.K
open Go Go.RowKit Go.Proofs Go.Nat9 Go.Fw Go.Fw.T6
attribute [local irreducible] JC JL JE

open Go.Fw.Cn
set_option maxHeartbeats 4000000 in
theorem canonicalRenames_con {a1 a2 a3 : Option Addr} {c1 c2 c3 : Nat} {O R : List Int} {K : List Cn.Lk} {ad4 ad5 : Option Addr} {d4 d5 : Nat} {TO TR : List Int} :
    ConF Tryz.prog 7 [.agg #[.slice a1 O.length c1, .slice a2 R.length c2, .slice a3 K.length c3], .slice ad4 TO.length d4, .slice ad5 TR.length d5] [vCells a1 (i64s O), vCells a2 (i64s R), vCells a3 (lks K), vCells ad4 (i64s TO), vCells ad5 (i64s TR)]
      (fun v φo => v = .bool (true) ∧ φo = []) := by
 refine ConF_of Tryz.func7 rfl 94 (_ :: _ :: _ :: rp 91) rfl rfl ?_; intro w0; refine JC_st [] [_, _, _, _, _] ?_; refine JC_sr ?_; refine JL_box rfl rfl (fun b3 => ?_); refine JL_a ?_; refine JL_du 94 [box _ _ [_, _, _]] [_, _, _, _, _] ?_; refine JC_seq ?_; refine JC_sr ?_; refine JL_callF' Asks.nil (awake_con) rfl ca8 rfl ?_; rintro _ _ ⟨rfl, rfl⟩; refine JL_not rfl ?_; rw [Bool.not_true]; refine JL_m ?_; refine JL_gy ?_; refine JL_loadA (vs := [_, _, _]) 0 ty25 rfl rfl ⟨rfl, rfl, rfl, trivial⟩ ?_; refine JL_gy ?_; refine JL_callF' Asks.nil (few_con) rfl ca9 ⟨rfl, rfl⟩ ?_; rintro _ _ ⟨rfl, rfl⟩; refine JL_split (fun h21 => ?_) (fun h21 => ?_)
 ·refine JL_gy ?_; refine JL_not rfl ?_; rw [Bool.not_true]; refine JL_pick_f rfl rfl ?_; refine JL_m ?_; refine JL_gy ?_; refine JL_m ?_; refine JL_gy ?_; refine JL_len sl22 rfl ?_; refine JL_gy ?_; refine JL_gtr rfl rfl ?_; refine JL_split (fun h27 => ?_) (fun h27 => ?_)
  ·refine JL_pick_f rfl rfl ?_; refine JL_m ?_; refine JL_gn ?_; refine JL_gn ?_; refine JL_gn ?_; refine JL_pick_t rfl rfl ?_; refine JL_du 94 [box _ _ [_, _, _]] [_, _, _, _, _] ?_; refine JC_true rfl ?_; refine JC_sr ?_; refine JL_callF' Asks.nil (awake_con) rfl ca8 rfl ?_; rintro _ _ ⟨rfl, rfl⟩; refine JL_a ?_; refine JL_du 94 [box _ _ [_, _, _]] [_, _, _, _, _] ?_; refine JC_ret ?_; refine JE_then_ret ?_; refine JE_ret (vs := [_]) [] Tryz.results7 ⟨rfl, rfl⟩ ?_ ?_
   · exact ⟨rfl, rfl⟩
   · exact all_nil
  ·refine JL_pick_f rfl rfl ?_; refine JL_m ?_; refine JL_gy ?_; refine JL_m ?_; refine JL_gy ?_; refine JL_len sl22 rfl ?_; refine JL_gy ?_; refine JL_gtr rfl rfl ?_; refine JL_split (fun h32 => ?_) (fun h32 => ?_)
   ·refine JL_pick_f rfl rfl ?_; refine JL_du 94 [box _ _ [_, _, _]] [_, _, _, _, _] ?_; refine JC_true rfl ?_; refine JC_sr ?_; refine JL_callF' Asks.nil (awake_con) rfl ca8 rfl ?_; rintro _ _ ⟨rfl, rfl⟩; refine JL_a ?_; refine JL_du 94 [box _ _ [_, _, _]] [_, _, _, _, _] ?_; refine JC_ret ?_; refine JE_then_ret ?_; refine JE_ret (vs := [_]) [] Tryz.results7 ⟨rfl, rfl⟩ ?_ ?_
    · exact ⟨rfl, rfl⟩
    · exact all_nil
   ·refine JL_pick_f rfl rfl ?_; refine JL_du 94 [box _ _ [_, _, _]] [_, _, _, _, _] ?_; refine JC_false rfl ?_; refine JC_skip ?_; refine JE_then ?_; refine JC_seq ?_
    have hfw_h21 := h21
    unfold fewG at hfw_h21
    obtain ⟨bO_h21, bR_h21, bK_h21, _⟩ := hfw_h21; refine JC_region ?_; refine JL_loadA (vs := [_, _, _]) 0 ty25 rfl rfl ⟨rfl, rfl, rfl, trivial⟩ ?_; refine JL_m ?_; refine JL_m ?_; refine JL_callF' (Asks.cons (holds_of_mem am) (Asks.cons (holds_of_mem am) (Asks.cons (holds_of_mem am) (Asks.cons (holds_of_mem am) (Asks.cons (holds_of_mem am) Asks.nil))))) (ren_con om om om om om) rfl ca26 ⟨rfl, rfl, rfl, rfl⟩ ?_; rintro _ _ ⟨x139, d139, x239, d239, x339, d339, O39, R39, K39, e39, rfl, rfl, hm39⟩; refine JL_m ?_; refine JL_extract (v := .agg #[.slice x139 O39.length d139, .slice x239 R39.length d239, .slice x339 K39.length d339]) rfl rfl ?_; refine JL_extract (v := .int .i64 e39) rfl rfl ?_; refine JL_alloc z25 (fun b7 => ?_); refine JL_store (vs := [_, _, _]) 1 ty25 rfl rfl rfl ao3 rfl bleq ?_; refine JL_a ?_; refine JL_du 94 [box _ _ [_, _, _], box _ _ [_, _, _]] [_, _, _, _, _, _, _, _] ?_; refine JC_seq ?_; refine JC_sr ?_; refine JL_m ?_; refine JL_neq rfl rfl ?_
    refine JL_split (fun h43 => ?_) (fun h43 => ?_)
    ·refine JL_dv 94 ?_; refine JC_true rfl ?_; refine JC_seq ?_
     have hk0 := hm39.no h43
     refine JC_region ?_; refine JL_fieldAddr fo25_2 rfl ?_; refine JL_load 1 ty23 rfl rfl rfl ?_; refine JL_len sl23 rfl ?_; refine JL_eql rfl rfl ?_; refine JL_a ?_; refine JL_dv 94 ?_; refine JC_ret ?_; refine JE_then_ret ?_; refine JE_ret (vs := [_]) [] Tryz.results7 ⟨rfl, rfl⟩ ?_ ?_
     · rw [hk0]; exact ⟨rfl, rfl⟩
     · exact all_nil
    ·refine JL_dv 94 ?_; refine JC_false rfl ?_; refine JC_skip ?_; refine JE_then ?_; refine JC_seq ?_; obtain ⟨hv, hT1, hT2, rfl, rfl, rfl⟩ := hm39.ok (Classical.not_not.1 h43)
     have hl1 := rn_len hT1
     have hl2 := rn_len hT2
     have hl3 := rnK_len O R TO TR K
     refine JC_region ?_; refine JL_loadA (vs := [_, _, _]) 0 ty25 rfl rfl ⟨rfl, rfl, rfl, trivial⟩ ?_; refine JL_callF' (Asks.cons (holds_of_mem am) (Asks.cons (holds_of_mem am) (Asks.cons (holds_of_mem am) Asks.nil))) (Code_con om om om) rfl ca10 ⟨rfl, rfl⟩ ?_; rintro _ _ ⟨ad50, c50, B50, rfl, rfl, hB50, hN50, hc50⟩; refine JL_m ?_; refine JL_extract (v := .slice ad50 B50.length c50) rfl rfl ?_; refine JL_extract (v := .int .i64 (errG O R K)) rfl rfl ?_; refine JL_a ?_; refine JL_a ?_; refine JL_du 94 [box _ _ [_, _, _], box _ _ [_, _, _]] [_, _, _, _, _, _, _, _, _] ?_; refine JC_sr ?_; refine JL_loadA (vs := [_, _, _]) 1 ty25 rfl rfl ⟨rfl, rfl, rfl, trivial⟩ ?_; refine JL_callF' (Asks.cons (holds_of_mem am) (Asks.cons (holds_of_mem am) (Asks.cons (holds_of_mem am) Asks.nil))) (Code_con om om om) rfl ca10 ⟨rfl, rfl⟩ ?_; rintro _ _ ⟨ad55, c55, B55, rfl, rfl, hB55, hN55, hc55⟩; refine JL_m ?_; refine JL_extract (v := .slice ad55 B55.length c55) rfl rfl ?_; refine JL_extract (v := .int .i64 (errG (srtI TO) (srtI TR) (rnK O R TO TR K))) rfl rfl ?_; refine JL_a ?_
     refine JL_a ?_; refine JL_du 94 [box _ _ [_, _, _], box _ _ [_, _, _]] [_, _, _, _, _, _, _, _, _, _] ?_; refine JC_sr ?_; refine JL_loadA (vs := [_, _, _]) 0 ty25 rfl rfl ⟨rfl, rfl, rfl, trivial⟩ ?_; refine JL_callF' (Asks.cons (holds_of_mem am) (Asks.cons (holds_of_mem am) (Asks.cons (holds_of_mem am) Asks.nil))) (name_con om om om) rfl ca11 ⟨rfl, rfl⟩ ?_; rintro _ _ ⟨T60, rfl, rfl, hT60, hN60⟩; refine JL_m ?_; refine JL_extract (v := .string (bs T60)) rfl rfl ?_; refine JL_extract (v := .int .i64 (errG O R K)) rfl rfl ?_; refine JL_a ?_; refine JL_a ?_; refine JL_du 94 [box _ _ [_, _, _], box _ _ [_, _, _]] [_, _, _, _, _, _, _, _, _, _] ?_; refine JC_sr ?_; refine JL_loadA (vs := [_, _, _]) 1 ty25 rfl rfl ⟨rfl, rfl, rfl, trivial⟩ ?_; refine JL_callF' (Asks.cons (holds_of_mem am) (Asks.cons (holds_of_mem am) (Asks.cons (holds_of_mem am) Asks.nil))) (name_con om om om) rfl ca11 ⟨rfl, rfl⟩ ?_; rintro _ _ ⟨T65, rfl, rfl, hT65, hN65⟩; refine JL_m ?_; refine JL_extract (v := .string (bs T65)) rfl rfl ?_
     refine JL_extract (v := .int .i64 (errG (srtI TO) (srtI TR) (rnK O R TO TR K))) rfl rfl ?_; refine JL_a ?_; refine JL_a ?_; refine JL_du 94 [box _ _ [_, _, _], box _ _ [_, _, _]] [_, _, _, _, _, _, _, _, _, _] ?_; refine JC_seq ?_
     have hBB := rn_codes hv hT1 hT2 hB50 hN50 hB55 hN55
     have hTT := rn_names hv hT1 hT2 hT60 hN60 hT65 hN65
     have hee := rn_err hv hT1 hT2
     have hbl := codes_len hB50 hN50
     rw [hBB, hTT, hee]
     rcases Classical.em (errG O R K = 0) with hE | hE
     ·refine JC_region ?_; refine JL_m ?_; refine JL_m ?_; refine JL_eql rfl rfl ?_; refine JL_split (fun h70 => ?_) (fun h70 => ?_)
      ·refine JL_m ?_; refine JL_gy ?_; refine JL_m ?_; refine JL_gy ?_; refine JL_m ?_; refine JL_gy ?_; refine JL_eql rfl rfl ?_; refine JL_split (fun h74 => ?_) (fun h74 => ?_)
       ·refine JL_pick_t rfl rfl ?_; refine JL_m ?_; refine JL_gy ?_; refine JL_m ?_; refine JL_gy ?_; refine JL_m ?_; refine JL_gy ?_; refine JL_callF' (Asks.cons (holds_of_mem am) (Asks.cons (holds_of_mem am) Asks.nil)) (bint_con (L := B50) (M := B50) om om) rfl ca16 ⟨rfl, rfl, rfl⟩ ?_; rintro _ _ ⟨rfl, rfl⟩; refine JL_split (fun h79 => ?_) (fun h79 => ?_)
        ·refine JL_pick_t rfl rfl ?_; refine JL_m ?_; refine JL_gy ?_; refine JL_m ?_; refine JL_gy ?_; refine JL_m ?_; refine JL_gy ?_; refine JL_eqlS rfl rfl ?_; refine JL_splitV (fun h84 => ?_) (fun h84 => ?_)
         ·refine JL_pick_t rfl rfl ?_; refine JL_m ?_; refine JL_gy ?_; refine JL_loadA (vs := [_, _, _]) 0 ty25 rfl rfl ⟨rfl, rfl, rfl, trivial⟩ ?_; refine JL_gy ?_; refine JL_loadA (vs := [_, _, _]) 1 ty25 rfl rfl ⟨rfl, rfl, rfl, trivial⟩ ?_; refine JL_gy ?_; refine JL_callF' (Asks.cons (holds_of_mem am) (Asks.cons (holds_of_mem am) (Asks.cons (holds_of_mem am) (Asks.cons (holds_of_mem am) (Asks.cons (holds_of_mem am) (Asks.cons (holds_of_mem am) Asks.nil)))))) (alike_con om om om om om om) rfl ca24 ⟨rfl, rfl, rfl⟩ ?_; rintro _ _ ⟨o89, e89, rfl, rfl, hm89⟩; rw [decide_eq_true ((rn_alike hv hT1 hT2 hm89).2 hE)]; refine JL_gy ?_; refine JL_m ?_; refine JL_gy ?_; refine JL_eql rfl rfl ?_; rw [decide_eq_true (p := errG O R K = 0) om]; refine JL_gy ?_; refine JL_eqlB ub4 rfl rfl ?_; refine JL_splitEqB (fun h92 => ?_) (fun h92 => ?_)
          ·refine JL_pick_t rfl rfl ?_; refine JL_a ?_; refine JL_du 94 [box _ _ [_, _, _], box _ _ [_, _, _]] [_, _, _, _, _, _, _, _, _, _] ?_; refine JC_ret ?_; refine JE_ret (vs := [_]) [] Tryz.results7 ⟨rfl, rfl⟩ ?_ ?_
           · exact ⟨rfl, rfl⟩
           · exact all_nil
          · exact absurd rfl h92
         · exact absurd h84 (by rw [bs_beq_true rfl]; decide)
        · exact absurd rfl h79
       · exact absurd rfl h74
      · exact absurd rfl h70
     ·refine JC_region ?_; refine JL_m ?_; refine JL_m ?_; refine JL_eql rfl rfl ?_; refine JL_split (fun h70 => ?_) (fun h70 => ?_)
      ·refine JL_m ?_; refine JL_gy ?_; refine JL_m ?_; refine JL_gy ?_; refine JL_m ?_; refine JL_gy ?_; refine JL_eql rfl rfl ?_; refine JL_split (fun h74 => ?_) (fun h74 => ?_)
       ·refine JL_pick_t rfl rfl ?_; refine JL_m ?_; refine JL_gy ?_; refine JL_m ?_; refine JL_gy ?_; refine JL_m ?_; refine JL_gy ?_; refine JL_callF' (Asks.cons (holds_of_mem am) (Asks.cons (holds_of_mem am) Asks.nil)) (bint_con (L := B50) (M := B50) om om) rfl ca16 ⟨rfl, rfl, rfl⟩ ?_; rintro _ _ ⟨rfl, rfl⟩; refine JL_split (fun h79 => ?_) (fun h79 => ?_)
        ·refine JL_pick_t rfl rfl ?_; refine JL_m ?_; refine JL_gy ?_; refine JL_m ?_; refine JL_gy ?_; refine JL_m ?_; refine JL_gy ?_; refine JL_eqlS rfl rfl ?_; refine JL_splitV (fun h84 => ?_) (fun h84 => ?_)
         ·refine JL_pick_t rfl rfl ?_; refine JL_m ?_; refine JL_gy ?_; refine JL_loadA (vs := [_, _, _]) 0 ty25 rfl rfl ⟨rfl, rfl, rfl, trivial⟩ ?_; refine JL_gy ?_; refine JL_loadA (vs := [_, _, _]) 1 ty25 rfl rfl ⟨rfl, rfl, rfl, trivial⟩ ?_; refine JL_gy ?_; refine JL_callF' (Asks.cons (holds_of_mem am) (Asks.cons (holds_of_mem am) (Asks.cons (holds_of_mem am) (Asks.cons (holds_of_mem am) (Asks.cons (holds_of_mem am) (Asks.cons (holds_of_mem am) Asks.nil)))))) (alike_con om om om om om om) rfl ca24 ⟨rfl, rfl, rfl⟩ ?_; rintro _ _ ⟨o89, e89, rfl, rfl, hm89⟩; rw [decide_eq_false (fun h => hE ((rn_alike hv hT1 hT2 hm89).1 h))]; refine JL_gy ?_; refine JL_m ?_; refine JL_gy ?_; refine JL_eql rfl rfl ?_; rw [decide_eq_false (p := errG O R K = 0) om]; refine JL_gy ?_; refine JL_eqlB ub4 rfl rfl ?_; refine JL_splitEqB (fun h92 => ?_) (fun h92 => ?_)
          ·refine JL_pick_t rfl rfl ?_; refine JL_a ?_; refine JL_du 94 [box _ _ [_, _, _], box _ _ [_, _, _]] [_, _, _, _, _, _, _, _, _, _] ?_; refine JC_ret ?_; refine JE_ret (vs := [_]) [] Tryz.results7 ⟨rfl, rfl⟩ ?_ ?_
           · exact ⟨rfl, rfl⟩
           · exact all_nil
          · exact absurd rfl h92
         · exact absurd h84 (by rw [bs_beq_true rfl]; decide)
        · exact absurd rfl h79
       · exact absurd rfl h74
      · exact absurd rfl h70
 ·refine JL_gy ?_; refine JL_not rfl ?_; rw [Bool.not_false]; refine JL_pick_f rfl rfl ?_; refine JL_m ?_; refine JL_gn ?_; refine JL_gn ?_; refine JL_gn ?_; refine JL_pick_t rfl rfl ?_; refine JL_m ?_; refine JL_gn ?_; refine JL_gn ?_; refine JL_gn ?_; refine JL_pick_t rfl rfl ?_; refine JL_du 94 [box _ _ [_, _, _]] [_, _, _, _, _] ?_; refine JC_true rfl ?_; refine JC_sr ?_; refine JL_callF' Asks.nil (awake_con) rfl ca8 rfl ?_; rintro _ _ ⟨rfl, rfl⟩; refine JL_a ?_; refine JL_du 94 [box _ _ [_, _, _]] [_, _, _, _, _] ?_; refine JC_ret ?_; refine JE_then_ret ?_; refine JE_ret (vs := [_]) [] Tryz.results7 ⟨rfl, rfl⟩ ?_ ?_
  · exact ⟨rfl, rfl⟩
  · exact all_nil

end Go.Fw.K
