/- Walks through functions of the given program: each meets its contract. (Printed by a program of this repo.) -/
import Derived.Test.YtmambmpohkollaaDoorC1
import Derived.Test.YtmambmpohkollaaDoorProg
namespace Go.Fw.T1
open Go Go.RowKit Go.Proofs Go.Nat9 Go.Fw
attribute [local irreducible] JC JL JE
theorem ca10 : callable Tryd.prog 10 = true := by kernel_rfl
theorem ca4 : callable Tryd.prog 4 = true := by kernel_rfl
theorem ca5 : callable Tryd.prog 5 = true := by kernel_rfl
theorem ca6 : callable Tryd.prog 6 = true := by kernel_rfl
theorem ca7 : callable Tryd.prog 7 = true := by kernel_rfl
theorem ca8 : callable Tryd.prog 8 = true := by kernel_rfl
theorem ca9 : callable Tryd.prog 9 = true := by kernel_rfl
theorem ty25 : tyOf Tryd.prog 25 = some (true, 3) := by kernel_rfl
theorem ub4 : Tryd.prog.underlying 4 = some .bool := by kernel_rfl
end Go.Fw.T1
namespace Go.Fw.K
open Go Go.RowKit Go.Proofs Go.Nat9 Go.Fw Go.Fw.T1
attribute [local irreducible] JC JL JE

open Go.Fw.Cn
set_option maxHeartbeats 4000000 in
set_option maxRecDepth 20000 in
theorem canonicalEqual_con {a1 a2 a3 : Option Addr} {c1 c2 c3 : Nat} {O R : List Int} {K : List Cn.Lk} {a4 a5 a6 : Option Addr} {c4 c5 c6 : Nat} {O2 R2 : List Int} {K2 : List Cn.Lk} :
    ConF Tryd.prog 3 [.agg #[.slice a1 O.length c1, .slice a2 R.length c2, .slice a3 K.length c3], .agg #[.slice a4 O2.length c4, .slice a5 R2.length c5, .slice a6 K2.length c6]] [vCells a1 (i64s O), vCells a2 (i64s R), vCells a3 (lks K), vCells a4 (i64s O2), vCells a5 (i64s R2), vCells a6 (lks K2)]
      (fun v φo => v = .bool (true) ∧ φo = []) := by
 refine ConF_of Tryd.func3 rfl 120 (_ :: _ :: rp 118) rfl rfl ?_; intro w0; refine JC_st [] [_, _, _, _, _, _] ?_; refine JC_sr ?_; refine JL_box rfl rfl (fun b2 => ?_); refine JL_box rfl rfl (fun b3 => ?_); refine JL_a ?_; refine JL_du 120 [box _ _ [_, _, _], box _ _ [_, _, _]] [_, _, _, _, _, _] ?_; refine JC_seq ?_; refine JC_sr ?_; refine JL_callF' Asks.nil (awake_con) rfl ca4 rfl ?_; rintro _ _ ⟨rfl, rfl⟩; refine JL_not rfl ?_; rw [Bool.not_true]; refine JL_m ?_; refine JL_gy ?_; refine JL_loadA (vs := [_, _, _]) 0 ty25 rfl rfl ⟨rfl, rfl, rfl, trivial⟩ ?_; refine JL_gy ?_; refine JL_callF' Asks.nil (few_con) rfl ca5 ⟨rfl, rfl⟩ ?_; rintro _ _ ⟨rfl, rfl⟩; refine JL_split (fun h22 => ?_) (fun h22 => ?_)
 ·refine JL_gy ?_; refine JL_not rfl ?_; rw [Bool.not_true]; refine JL_pick_f rfl rfl ?_; refine JL_m ?_; refine JL_gy ?_; refine JL_loadA (vs := [_, _, _]) 1 ty25 rfl rfl ⟨rfl, rfl, rfl, trivial⟩ ?_; refine JL_gy ?_; refine JL_callF' Asks.nil (few_con) rfl ca5 ⟨rfl, rfl⟩ ?_; rintro _ _ ⟨rfl, rfl⟩; refine JL_split (fun h27 => ?_) (fun h27 => ?_)
  ·refine JL_gy ?_; refine JL_not rfl ?_; rw [Bool.not_true]; refine JL_pick_f rfl rfl ?_; refine JL_du 120 [box _ _ [_, _, _], box _ _ [_, _, _]] [_, _, _, _, _, _] ?_; refine JC_false rfl ?_; refine JC_skip ?_; refine JE_then ?_; refine JC_seq ?_
   have hfw_h22 := h22
   unfold fewG at hfw_h22
   obtain ⟨bO_h22, bR_h22, bK_h22, _⟩ := hfw_h22
   have hfw_h27 := h27
   unfold fewG at hfw_h27
   obtain ⟨bO_h27, bR_h27, bK_h27, _⟩ := hfw_h27; refine JC_region ?_; refine JL_loadA (vs := [_, _, _]) 0 ty25 rfl rfl ⟨rfl, rfl, rfl, trivial⟩ ?_; refine JL_callF' (Asks.cons (holds_of_mem am) (Asks.cons (holds_of_mem am) (Asks.cons (holds_of_mem am) Asks.nil))) (Code_con om om om) rfl ca6 ⟨rfl, rfl⟩ ?_; rintro _ _ ⟨ad33, c33, B33, rfl, rfl, hB33, hN33, hc33⟩; refine JL_m ?_; refine JL_extract (v := .slice ad33 B33.length c33) rfl rfl ?_; refine JL_extract (v := .int .i64 (errG O R K)) rfl rfl ?_; refine JL_a ?_; refine JL_a ?_; refine JL_du 120 [box _ _ [_, _, _], box _ _ [_, _, _]] [_, _, _, _, _, _, _] ?_; refine JC_sr ?_; refine JL_loadA (vs := [_, _, _]) 1 ty25 rfl rfl ⟨rfl, rfl, rfl, trivial⟩ ?_; refine JL_callF' (Asks.cons (holds_of_mem am) (Asks.cons (holds_of_mem am) (Asks.cons (holds_of_mem am) Asks.nil))) (Code_con om om om) rfl ca6 ⟨rfl, rfl⟩ ?_; rintro _ _ ⟨ad38, c38, B38, rfl, rfl, hB38, hN38, hc38⟩; refine JL_m ?_; refine JL_extract (v := .slice ad38 B38.length c38) rfl rfl ?_; refine JL_extract (v := .int .i64 (errG O2 R2 K2)) rfl rfl ?_; refine JL_a ?_
   refine JL_a ?_; refine JL_du 120 [box _ _ [_, _, _], box _ _ [_, _, _]] [_, _, _, _, _, _, _, _] ?_; refine JC_seq ?_; refine JC_sr ?_; refine JL_m ?_; refine JL_neq rfl rfl ?_; refine JL_split (fun h42 => ?_) (fun h42 => ?_)
   ·refine JL_m ?_; refine JL_gn ?_; refine JL_gn ?_; refine JL_pick_t rfl rfl ?_; refine JL_dv 120 ?_; refine JC_true rfl ?_; refine JC_sr ?_; refine JL_loadA (vs := [_, _, _]) 0 ty25 rfl rfl ⟨rfl, rfl, rfl, trivial⟩ ?_; refine JL_loadA (vs := [_, _, _]) 1 ty25 rfl rfl ⟨rfl, rfl, rfl, trivial⟩ ?_; refine JL_callF' (Asks.cons (holds_of_mem am) (Asks.cons (holds_of_mem am) (Asks.cons (holds_of_mem am) (Asks.cons (holds_of_mem am) (Asks.cons (holds_of_mem am) (Asks.cons (holds_of_mem am) Asks.nil)))))) (alike_con om om om om om om) rfl ca7 ⟨rfl, rfl, rfl⟩ ?_; rintro _ _ ⟨o49, e49, rfl, rfl, hm49⟩; refine JL_not rfl ?_; refine JL_a ?_; refine JL_du 120 [box _ _ [_, _, _], box _ _ [_, _, _]] [_, _, _, _, _, _, _, _] ?_; refine JC_ret ?_; refine JE_then_ret ?_; refine JE_ret (vs := [_]) [] Tryd.results3 ⟨rfl, rfl⟩ ?_ ?_
    · rw [decide_eq_false (alike_no (.inl h42) hm49)]; exact ⟨rfl, rfl⟩
    · exact all_nil
   ·refine JL_m ?_; refine JL_gy ?_; refine JL_m ?_; refine JL_gy ?_; refine JL_neq rfl rfl ?_; refine JL_split (fun h45 => ?_) (fun h45 => ?_)
    ·refine JL_pick_f rfl rfl ?_; refine JL_dv 120 ?_; refine JC_true rfl ?_; refine JC_sr ?_; refine JL_loadA (vs := [_, _, _]) 0 ty25 rfl rfl ⟨rfl, rfl, rfl, trivial⟩ ?_; refine JL_loadA (vs := [_, _, _]) 1 ty25 rfl rfl ⟨rfl, rfl, rfl, trivial⟩ ?_; refine JL_callF' (Asks.cons (holds_of_mem am) (Asks.cons (holds_of_mem am) (Asks.cons (holds_of_mem am) (Asks.cons (holds_of_mem am) (Asks.cons (holds_of_mem am) (Asks.cons (holds_of_mem am) Asks.nil)))))) (alike_con om om om om om om) rfl ca7 ⟨rfl, rfl, rfl⟩ ?_; rintro _ _ ⟨o49, e49, rfl, rfl, hm49⟩; refine JL_not rfl ?_; refine JL_a ?_; refine JL_du 120 [box _ _ [_, _, _], box _ _ [_, _, _]] [_, _, _, _, _, _, _, _] ?_; refine JC_ret ?_; refine JE_then_ret ?_; refine JE_ret (vs := [_]) [] Tryd.results3 ⟨rfl, rfl⟩ ?_ ?_
     · rw [decide_eq_false (alike_no (.inr h45) hm49)]; exact ⟨rfl, rfl⟩
     · exact all_nil
    ·refine JL_pick_f rfl rfl ?_; refine JL_dv 120 ?_; refine JC_false rfl ?_; refine JC_skip ?_; refine JE_then ?_; refine JC_seq ?_
     have he1 : errG O R K = 0 := Classical.not_not.1 h42
     have he2 : errG O2 R2 K2 = 0 := Classical.not_not.1 h45
     have hB1 := hB33 he1
     have hB2 := hB38 he2
     obtain ⟨v1, s1, s2⟩ := errG_0.1 he1; obtain ⟨v2, s3, s4⟩ := errG_0.1 he2
     have hl1 := hB1.len
     have hl2 := hB2.len
     rw [matG_len] at hl1 hl2
     have hm1 : O.length * R.length ≤ 6 * 6 := Nat.mul_le_mul s1 s2
     have hm2 : O2.length * R2.length ≤ 6 * 6 := Nat.mul_le_mul s3 s4
     refine JC_region ?_; refine JL_loadA (vs := [_, _, _]) 0 ty25 rfl rfl ⟨rfl, rfl, rfl, trivial⟩ ?_; refine JL_callF' (Asks.cons (holds_of_mem am) (Asks.cons (holds_of_mem am) (Asks.cons (holds_of_mem am) Asks.nil))) (name_con om om om) rfl ca8 ⟨rfl, rfl⟩ ?_; rintro _ _ ⟨T53, rfl, rfl, hT53, hN53⟩; refine JL_m ?_; refine JL_extract (v := .string (bs T53)) rfl rfl ?_; refine JL_extract (v := .int .i64 (errG O R K)) rfl rfl ?_; refine JL_a ?_; refine JL_a ?_; refine JL_du 120 [box _ _ [_, _, _], box _ _ [_, _, _]] [_, _, _, _, _, _, _, _] ?_; refine JC_sr ?_; refine JL_loadA (vs := [_, _, _]) 1 ty25 rfl rfl ⟨rfl, rfl, rfl, trivial⟩ ?_; refine JL_callF' (Asks.cons (holds_of_mem am) (Asks.cons (holds_of_mem am) (Asks.cons (holds_of_mem am) Asks.nil))) (name_con om om om) rfl ca8 ⟨rfl, rfl⟩ ?_; rintro _ _ ⟨T58, rfl, rfl, hT58, hN58⟩; refine JL_m ?_; refine JL_extract (v := .string (bs T58)) rfl rfl ?_; refine JL_extract (v := .int .i64 (errG O2 R2 K2)) rfl rfl ?_; refine JL_a ?_; refine JL_a ?_
     refine JL_du 120 [box _ _ [_, _, _], box _ _ [_, _, _]] [_, _, _, _, _, _, _, _] ?_; refine JC_sr ?_; refine JL_loadA (vs := [_, _, _]) 0 ty25 rfl rfl ⟨rfl, rfl, rfl, trivial⟩ ?_; refine JL_callF' (Asks.cons (holds_of_mem am) (Asks.cons (holds_of_mem am) (Asks.cons (holds_of_mem am) Asks.nil))) (sym_con om om om) rfl ca9 ⟨rfl, rfl⟩ ?_; rintro _ _ ⟨n63, rfl, rfl, hn63⟩; refine JL_m ?_; refine JL_extract (v := .int .i64 (n63 : Nat)) rfl rfl ?_; refine JL_extract (v := .int .i64 (errG O R K)) rfl rfl ?_; refine JL_a ?_; refine JL_a ?_; refine JL_du 120 [box _ _ [_, _, _], box _ _ [_, _, _]] [_, _, _, _, _, _, _, _] ?_; refine JC_sr ?_; refine JL_loadA (vs := [_, _, _]) 1 ty25 rfl rfl ⟨rfl, rfl, rfl, trivial⟩ ?_; refine JL_callF' (Asks.cons (holds_of_mem am) (Asks.cons (holds_of_mem am) (Asks.cons (holds_of_mem am) Asks.nil))) (sym_con om om om) rfl ca9 ⟨rfl, rfl⟩ ?_; rintro _ _ ⟨n68, rfl, rfl, hn68⟩; refine JL_m ?_; refine JL_extract (v := .int .i64 (n68 : Nat)) rfl rfl ?_; refine JL_extract (v := .int .i64 (errG O2 R2 K2)) rfl rfl ?_; refine JL_a ?_
     refine JL_a ?_; refine JL_du 120 [box _ _ [_, _, _], box _ _ [_, _, _]] [_, _, _, _, _, _, _, _] ?_; refine JC_seq ?_; refine JC_seq ?_
     have hn1 : 1 ≤ n63 := by rw [hn63, if_pos he1]; exact nM_pos
     refine JC_region ?_; refine JL_m ?_; refine JL_neq rfl rfl ?_; refine JL_split (fun h72 => ?_) (fun h72 => ?_)
     · exact absurd h72 h42
     ·refine JL_m ?_; refine JL_gy ?_; refine JL_m ?_; refine JL_gy ?_; refine JL_neq rfl rfl ?_; refine JL_split (fun h75 => ?_) (fun h75 => ?_)
      · exact absurd h75 h45
      ·refine JL_pick_f rfl rfl ?_; refine JL_m ?_; refine JL_gy ?_; refine JL_m ?_; refine JL_gy ?_; refine JL_neq rfl rfl ?_; refine JL_split (fun h79 => ?_) (fun h79 => ?_)
       · exact absurd h79 h42
       ·refine JL_pick_f rfl rfl ?_; refine JL_m ?_; refine JL_gy ?_; refine JL_m ?_; refine JL_gy ?_; refine JL_neq rfl rfl ?_; refine JL_split (fun h83 => ?_) (fun h83 => ?_)
        · exact absurd h83 h45
        ·refine JL_pick_f rfl rfl ?_; refine JL_m ?_; refine JL_gy ?_; refine JL_m ?_; refine JL_gy ?_; refine JL_lss rfl rfl ?_; refine JL_split (fun h87 => ?_) (fun h87 => ?_)
         · exact absurd h87 om
         ·refine JL_pick_f rfl rfl ?_; refine JL_dv 120 ?_; refine JC_false rfl ?_; refine JC_skip ?_; refine JE_then ?_; refine JC_sr ?_; refine JL_loadA (vs := [_, _, _]) 0 ty25 rfl rfl ⟨rfl, rfl, rfl, trivial⟩ ?_; refine JL_loadA (vs := [_, _, _]) 1 ty25 rfl rfl ⟨rfl, rfl, rfl, trivial⟩ ?_; refine JL_callF' (Asks.cons (holds_of_mem am) (Asks.cons (holds_of_mem am) (Asks.cons (holds_of_mem am) (Asks.cons (holds_of_mem am) (Asks.cons (holds_of_mem am) (Asks.cons (holds_of_mem am) Asks.nil)))))) (alike_con om om om om om om) rfl ca7 ⟨rfl, rfl, rfl⟩ ?_; rintro _ _ ⟨o91, e91, rfl, rfl, hm91⟩; refine JL_a ?_; refine JL_du 120 [box _ _ [_, _, _], box _ _ [_, _, _]] [_, _, _, _, _, _, _, _] ?_; refine JC_seq ?_
          by_cases hE : e91 = 0
          ·rw [decide_eq_true hE]
           have hEB := (alike_code he1 he2 hB1 hB2 hm91).1 hE
           have hET := (name_code he1 he2 hB1 hB2 (hT53 he1) (hT58 he2)).2 hEB
           have hES : n63 = n68 := by rw [hn63, hn68, if_pos he1, if_pos he2]; exact alike_syms he1 he2 hm91 hE
           refine JC_region ?_; refine JL_m ?_; refine JL_m ?_; refine JL_m ?_; refine JL_callF' (Asks.cons (holds_of_mem am) (Asks.cons (holds_of_mem am) Asks.nil)) (bint_con om om) rfl ca10 ⟨rfl, rfl, rfl⟩ ?_; rintro _ _ ⟨rfl, rfl⟩; rw [decide_eq_true hEB]; refine JL_eqlB ub4 rfl rfl ?_; refine JL_splitEqB (fun h96 => ?_) (fun h96 => ?_)
           ·refine JL_m ?_; refine JL_gy ?_; refine JL_m ?_; refine JL_gy ?_; refine JL_m ?_; refine JL_gy ?_; refine JL_m ?_; refine JL_gy ?_; refine JL_eqlS rfl rfl ?_; rw [bs_beq_true hET]; refine JL_gy ?_; refine JL_eqlB ub4 rfl rfl ?_; refine JL_splitEqB (fun h102 => ?_) (fun h102 => ?_)
            ·refine JL_pick_t rfl rfl ?_; refine JL_m ?_; refine JL_gy ?_; refine JL_m ?_; refine JL_gy ?_; refine JL_not rfl ?_; rw [Bool.not_true]; refine JL_gy ?_; refine JL_m ?_; refine JL_gy ?_; refine JL_m ?_; refine JL_gy ?_; refine JL_m ?_; refine JL_gy ?_; refine JL_eql rfl rfl ?_; refine JL_split (fun h110 => ?_) (fun h110 => ?_)
             ·refine JL_gy ?_; refine JL_pick_f rfl rfl ?_; refine JL_pick_t rfl rfl ?_; refine JL_m ?_; refine JL_gy ?_; refine JL_loadA (vs := [_, _, _]) 1 ty25 rfl rfl ⟨rfl, rfl, rfl, trivial⟩ ?_; refine JL_gy ?_; refine JL_loadA (vs := [_, _, _]) 0 ty25 rfl rfl ⟨rfl, rfl, rfl, trivial⟩ ?_; refine JL_gy ?_; refine JL_callF' (Asks.cons (holds_of_mem am) (Asks.cons (holds_of_mem am) (Asks.cons (holds_of_mem am) (Asks.cons (holds_of_mem am) (Asks.cons (holds_of_mem am) (Asks.cons (holds_of_mem am) Asks.nil)))))) (alike_con om om om om om om) rfl ca7 ⟨rfl, rfl, rfl⟩ ?_; rintro _ _ ⟨o116, e116, rfl, rfl, hm116⟩; rw [decide_eq_true ((alike_code he2 he1 hB2 hB1 hm116).2 hEB.symm)]; refine JL_gy ?_; refine JL_m ?_; refine JL_gy ?_; refine JL_eqlB ub4 rfl rfl ?_; refine JL_pick_t rfl rfl ?_; refine JL_a ?_; refine JL_du 120 [box _ _ [_, _, _], box _ _ [_, _, _]] [_, _, _, _, _, _, _, _] ?_; refine JC_ret ?_; refine JE_ret (vs := [_]) [] Tryd.results3 ⟨rfl, rfl⟩ ?_ ?_
              · exact ⟨rfl, rfl⟩
              · exact all_nil
             · exact absurd (by rw [hES]) h110
            · exact absurd rfl h102
           · exact absurd rfl h96
          ·rw [decide_eq_false hE]
           have hEB := fun h => hE ((alike_code he1 he2 hB1 hB2 hm91).2 h)
           have hET := fun h => hEB ((name_code he1 he2 hB1 hB2 (hT53 he1) (hT58 he2)).1 h)
           refine JC_region ?_; refine JL_m ?_; refine JL_m ?_; refine JL_m ?_; refine JL_callF' (Asks.cons (holds_of_mem am) (Asks.cons (holds_of_mem am) Asks.nil)) (bint_con om om) rfl ca10 ⟨rfl, rfl, rfl⟩ ?_; rintro _ _ ⟨rfl, rfl⟩; rw [decide_eq_false hEB]; refine JL_eqlB ub4 rfl rfl ?_; refine JL_splitEqB (fun h96 => ?_) (fun h96 => ?_)
           ·refine JL_m ?_; refine JL_gy ?_; refine JL_m ?_; refine JL_gy ?_; refine JL_m ?_; refine JL_gy ?_; refine JL_m ?_; refine JL_gy ?_; refine JL_eqlS rfl rfl ?_; rw [bs_beq_false hET]; refine JL_gy ?_; refine JL_eqlB ub4 rfl rfl ?_; refine JL_splitEqB (fun h102 => ?_) (fun h102 => ?_)
            ·refine JL_pick_t rfl rfl ?_; refine JL_m ?_; refine JL_gy ?_; refine JL_m ?_; refine JL_gy ?_; refine JL_not rfl ?_; rw [Bool.not_false]; refine JL_gy ?_; refine JL_m ?_; refine JL_gn ?_; refine JL_gn ?_; refine JL_gn ?_; refine JL_gy ?_; refine JL_pick_t rfl rfl ?_; refine JL_pick_t rfl rfl ?_; refine JL_m ?_; refine JL_gy ?_; refine JL_loadA (vs := [_, _, _]) 1 ty25 rfl rfl ⟨rfl, rfl, rfl, trivial⟩ ?_; refine JL_gy ?_; refine JL_loadA (vs := [_, _, _]) 0 ty25 rfl rfl ⟨rfl, rfl, rfl, trivial⟩ ?_; refine JL_gy ?_; refine JL_callF' (Asks.cons (holds_of_mem am) (Asks.cons (holds_of_mem am) (Asks.cons (holds_of_mem am) (Asks.cons (holds_of_mem am) (Asks.cons (holds_of_mem am) (Asks.cons (holds_of_mem am) Asks.nil)))))) (alike_con om om om om om om) rfl ca7 ⟨rfl, rfl, rfl⟩ ?_; rintro _ _ ⟨o116, e116, rfl, rfl, hm116⟩; rw [decide_eq_false (fun h => hEB ((alike_code he2 he1 hB2 hB1 hm116).1 h).symm)]; refine JL_gy ?_; refine JL_m ?_; refine JL_gy ?_; refine JL_eqlB ub4 rfl rfl ?_; refine JL_pick_t rfl rfl ?_; refine JL_a ?_
             refine JL_du 120 [box _ _ [_, _, _], box _ _ [_, _, _]] [_, _, _, _, _, _, _, _] ?_; refine JC_ret ?_; refine JE_ret (vs := [_]) [] Tryd.results3 ⟨rfl, rfl⟩ ?_ ?_
             · exact ⟨rfl, rfl⟩
             · exact all_nil
            · exact absurd rfl h102
           · exact absurd rfl h96
  ·refine JL_gy ?_; refine JL_not rfl ?_; rw [Bool.not_false]; refine JL_pick_f rfl rfl ?_; refine JL_du 120 [box _ _ [_, _, _], box _ _ [_, _, _]] [_, _, _, _, _, _] ?_; refine JC_true rfl ?_; refine JC_sr ?_; refine JL_callF' Asks.nil (awake_con) rfl ca4 rfl ?_; rintro _ _ ⟨rfl, rfl⟩; refine JL_a ?_; refine JL_du 120 [box _ _ [_, _, _], box _ _ [_, _, _]] [_, _, _, _, _, _] ?_; refine JC_ret ?_; refine JE_then_ret ?_; refine JE_ret (vs := [_]) [] Tryd.results3 ⟨rfl, rfl⟩ ?_ ?_
   · exact ⟨rfl, rfl⟩
   · exact all_nil
 ·refine JL_gy ?_; refine JL_not rfl ?_; rw [Bool.not_false]; refine JL_pick_f rfl rfl ?_; refine JL_m ?_; refine JL_gn ?_; refine JL_gn ?_; refine JL_gn ?_; refine JL_pick_t rfl rfl ?_; refine JL_du 120 [box _ _ [_, _, _], box _ _ [_, _, _]] [_, _, _, _, _, _] ?_; refine JC_true rfl ?_; refine JC_sr ?_; refine JL_callF' Asks.nil (awake_con) rfl ca4 rfl ?_; rintro _ _ ⟨rfl, rfl⟩; refine JL_a ?_; refine JL_du 120 [box _ _ [_, _, _], box _ _ [_, _, _]] [_, _, _, _, _, _] ?_; refine JC_ret ?_; refine JE_then_ret ?_; refine JE_ret (vs := [_]) [] Tryd.results3 ⟨rfl, rfl⟩ ?_ ?_
  · exact ⟨rfl, rfl⟩
  · exact all_nil

end Go.Fw.K
