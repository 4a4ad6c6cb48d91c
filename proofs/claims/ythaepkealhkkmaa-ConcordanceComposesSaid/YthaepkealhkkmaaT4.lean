/- Walks through functions of the given program: each meets its contract. (Printed by a program of this repo.) -/
import Derived.Test.YthaepkealhkkmaaQ13
import Derived.Test.YthaepkealhkkmaaCcF
import Derived.Test.YthaepkealhkkmaaProg
namespace Go.Fw.T4
open Go Go.RowKit Go.Proofs Go.Nat9 Go.Fw
attribute [local irreducible] JC JL JE
theorem ca10 : callable Try.prog 10 = true := by kernel_rfl
theorem ca11 : callable Try.prog 11 = true := by kernel_rfl
theorem ca12 : callable Try.prog 12 = true := by kernel_rfl
theorem ca20 : callable Try.prog 20 = true := by kernel_rfl
theorem ca26 : callable Try.prog 26 = true := by kernel_rfl
end Go.Fw.T4
namespace Go.Fw.K
open Go Go.RowKit Go.Proofs Go.Nat9 Go.Fw Go.Fw.T4
attribute [local irreducible] JC JL JE

set_option maxHeartbeats 4000000 in
set_option maxRecDepth 20000 in
theorem concordanceComposes_con {ad1 ad2 ad3 : Option Addr} {c1 c2 c3 : Nat} {l m k : List Pr} (hc1 : l.length ≤ c1 ∧ c1 ≤ 9223372036854775807) (hc2 : m.length ≤ c2 ∧ c2 ≤ 9223372036854775807) (hc3 : k.length ≤ c3 ∧ c3 ≤ 9223372036854775807) :
    ConF Try.prog 6 [.slice ad1 l.length c1, .slice ad2 m.length c2, .slice ad3 k.length c3] [vCells ad1 (pcells l), vCells ad2 (pcells m), vCells ad3 (pcells k)]
      (fun v φo => v = .bool true ∧ φo = []) := by
  have _ := hc1
  have _ := hc2
  have _ := hc3
  refine ConF_of Try.func6 rfl 109 _ rfl rfl ?_
  intro w0
  refine JC_norm ⟨109, [], [_, _, _, _, _, _, _, _, _, _, _, _, _, _, _, _, _, _, _, _, _, _, _, _, _, _, _, _, _, _, _, _, _, _, _, _, _, _, _, _, _, _, _, _, _, _, _, _, _, _, _, _, _, _, _, _, _, _, _, _, _, _, _, _, _, _, _, _, _, _, _, _, _, _, _, _, _, _, _, _, _, _, _, _, _, _, _, _, _, _, _, _, _, _, _, _, _, _, _, _, _, _, _, _, _, _, _, _, _]⟩ [] [_, _, _] rfl rfl rfl ?_
  refine JC_seq ?_
  refine JC_region ?_
  refine JL_assign rfl ?_
  refine JL_done_up 109 [] [_, _, _] rfl rfl (by simp only [nrmF]; rfl) rfl rfl ?_
  refine JC_seq ?_
  refine JC_seq ?_
  refine JC_region ?_
  refine JL_callF' Asks.nil (awake48_con) rfl ca10 rfl ?_
  rintro _ _ ⟨rfl, rfl⟩
  refine JL_not rfl ?_
  rw [Bool.not_true]
  refine JL_move rfl ?_
  refine JL_guard_yes rfl rfl ?_
  refine JL_move rfl ?_
  refine JL_guard_yes rfl rfl ?_
  refine JL_move rfl ?_
  refine JL_guard_yes rfl rfl ?_
  refine JL_callF' Asks.nil (few_con) rfl ca11 ⟨rfl, rfl, rfl⟩ ?_
  rintro _ _ ⟨rfl, rfl⟩
  refine JL_split (fun h28 => ?_) (fun h28 => ?_)
  · refine JL_guard_yes rfl rfl ?_
    refine JL_not rfl ?_
    rw [Bool.not_true]
    refine JL_pick_f rfl rfl ?_
    refine JL_move rfl ?_
    refine JL_guard_yes rfl rfl ?_
    refine JL_move rfl ?_
    refine JL_guard_yes rfl rfl ?_
    refine JL_move rfl ?_
    refine JL_guard_yes rfl rfl ?_
    refine JL_callF' Asks.nil (few_con) rfl ca11 ⟨rfl, rfl, rfl⟩ ?_
    rintro _ _ ⟨rfl, rfl⟩
    refine JL_split (fun h34 => ?_) (fun h34 => ?_)
    · refine JL_guard_yes rfl rfl ?_
      refine JL_not rfl ?_
      rw [Bool.not_true]
      refine JL_pick_f rfl rfl ?_
      refine JL_done_up 109 [] [_, _, _] rfl rfl (by simp only [nrmF]; rfl) rfl rfl ?_
      refine JC_false rfl ?_
      refine JC_skip ?_
      refine JE_then ?_
      refine JC_seq ?_
      have hln := h28.1
      have hmn := h28.2
      have hkn := h34.1
      have hb1 := both_len (l) (m) (cmpL (l) (m) (l).length)
      have hb2 := both_len (m) (k) (cmpL (m) (k) (m).length)
      refine JC_region ?_
      refine JL_move rfl ?_
      refine JL_move rfl ?_
      refine JL_callF' (Asks.cons (holds_of_mem (by repeat (first | with_reducible exact mm0 | refine mmS ?_))) (Asks.cons (holds_of_mem (by repeat (first | with_reducible exact mm0 | refine mmS ?_))) Asks.nil)) (compose_con (by omega) (by omega)) rfl ca26 ⟨rfl, rfl, rfl⟩ ?_
      rintro _ _ ⟨ad41, c41, rfl, hc41, rfl⟩
      refine JL_move rfl ?_
      refine JL_extract rfl rfl ?_
      refine JL_extract rfl rfl ?_
      refine JL_assign rfl ?_
      refine JL_assign rfl ?_
      refine JL_done_up 109 [] [_, _, _, _] rfl rfl (by simp only [nrmF]; rfl) rfl rfl ?_
      refine JC_seq ?_
      refine JC_region ?_
      refine JL_move rfl ?_
      refine JL_move rfl ?_
      refine JL_callF' (Asks.cons (holds_of_mem (by repeat (first | with_reducible exact mm0 | refine mmS ?_))) (Asks.cons (holds_of_mem (by repeat (first | with_reducible exact mm0 | refine mmS ?_))) Asks.nil)) (compose_con (l := m) (m := k) (by omega) (by omega)) rfl ca26 ⟨rfl, rfl, rfl⟩ ?_
      rintro _ _ ⟨ad47, c47, rfl, hc47, rfl⟩
      refine JL_move rfl ?_
      refine JL_extract rfl rfl ?_
      refine JL_extract rfl rfl ?_
      refine JL_assign rfl ?_
      refine JL_assign rfl ?_
      refine JL_done_up 109 [] [_, _, _, _, _] rfl rfl (by simp only [nrmF]; rfl) rfl rfl ?_
      refine JC_seq ?_
      refine JC_seq ?_
      refine JC_region ?_
      refine JL_move rfl ?_
      refine JL_neq rfl rfl ?_
      refine JL_split (fun h51 => ?_) (fun h51 => ?_)
      · refine JL_move rfl ?_
        refine JL_guard_no rfl rfl ?_
        refine JL_guard_no rfl rfl ?_
        refine JL_pick_t rfl rfl ?_
        refine JL_done_up 109 [] [_, _, _, _, _] rfl rfl (by simp only [nrmF]; rfl) rfl rfl ?_
        refine JC_true rfl ?_
        refine JC_seq ?_
        refine JC_region ?_
        refine JL_assign rfl ?_
        refine JL_done_up 109 [] [_, _, _, _, _] rfl rfl (by simp only [nrmF]; rfl) rfl rfl ?_
        refine JC_ret ?_
        refine JE_then_ret ?_
        refine JE_ret (vs := [_]) [] Try.results6 ⟨rfl, rfl⟩ ?_ ?_
        · exact ⟨rfl, rfl⟩
        · exact all_nil
      · refine JL_move rfl ?_
        refine JL_guard_yes rfl rfl ?_
        refine JL_move rfl ?_
        refine JL_guard_yes rfl rfl ?_
        refine JL_neq rfl rfl ?_
        refine JL_split (fun h54 => ?_) (fun h54 => ?_)
        · refine JL_pick_f rfl rfl ?_
          refine JL_done_up 109 [] [_, _, _, _, _] rfl rfl (by simp only [nrmF]; rfl) rfl rfl ?_
          refine JC_true rfl ?_
          refine JC_seq ?_
          refine JC_region ?_
          refine JL_assign rfl ?_
          refine JL_done_up 109 [] [_, _, _, _, _] rfl rfl (by simp only [nrmF]; rfl) rfl rfl ?_
          refine JC_ret ?_
          refine JE_then_ret ?_
          refine JE_ret (vs := [_]) [] Try.results6 ⟨rfl, rfl⟩ ?_ ?_
          · exact ⟨rfl, rfl⟩
          · exact all_nil
        · refine JL_pick_f rfl rfl ?_
          refine JL_done_up 109 [] [_, _, _, _, _] rfl rfl (by simp only [nrmF]; rfl) rfl rfl ?_
          refine JC_false rfl ?_
          refine JC_skip ?_
          refine JE_then ?_
          refine JC_seq ?_
          have he : coE l m = 0 := Classical.byContradiction h51
          have he2 : coE m k = 0 := Classical.byContradiction h54
          have hil := invR_len l
          have him := invR_len m
          refine JC_region ?_
          refine JL_move rfl ?_
          refine JL_move rfl ?_
          refine JL_callF' (Asks.cons (holds_of_mem (by repeat (first | with_reducible exact mm0 | refine mmS ?_))) (Asks.cons (holds_of_mem (by repeat (first | with_reducible exact mm0 | refine mmS ?_))) Asks.nil)) (compose_con (l := bothR (l) (m) (cmpL (l) (m) (l).length)) (m := k) (by omega) (by omega)) rfl ca26 ⟨rfl, rfl, rfl⟩ ?_
          rintro _ _ ⟨ad59, c59, rfl, hc59, rfl⟩
          rw [show bothR (bothR (l) (m) (cmpL (l) (m) (l).length)) (k) (cmpL (bothR (l) (m) (cmpL (l) (m) (l).length)) (k) (bothR (l) (m) (cmpL (l) (m) (l).length)).length) = bothR (l) (bothR (m) (k) (cmpL (m) (k) (m).length)) (cmpL (l) (bothR (m) (k) (cmpL (m) (k) (m).length)) (l).length) from (co_assoc he he2).1, show bothE (bothR (l) (m) (cmpL (l) (m) (l).length)) (k) (cmpL (bothR (l) (m) (cmpL (l) (m) (l).length)) (k) (bothR (l) (m) (cmpL (l) (m) (l).length)).length) = bothE (l) (bothR (m) (k) (cmpL (m) (k) (m).length)) (cmpL (l) (bothR (m) (k) (cmpL (m) (k) (m).length)) (l).length) from (co_assoc he he2).2]
          refine JL_move rfl ?_
          refine JL_extract rfl rfl ?_
          refine JL_extract rfl rfl ?_
          refine JL_assign rfl ?_
          refine JL_assign rfl ?_
          refine JL_done_up 109 [] [_, _, _, _, _, _] rfl rfl (by simp only [nrmF]; rfl) rfl rfl ?_
          refine JC_seq ?_
          refine JC_region ?_
          refine JL_move rfl ?_
          refine JL_move rfl ?_
          refine JL_callF' (Asks.cons (holds_of_mem (by repeat (first | with_reducible exact mm0 | refine mmS ?_))) (Asks.cons (holds_of_mem (by repeat (first | with_reducible exact mm0 | refine mmS ?_))) Asks.nil)) (compose_con (l := l) (m := bothR (m) (k) (cmpL (m) (k) (m).length)) (by omega) (by omega)) rfl ca26 ⟨rfl, rfl, rfl⟩ ?_
          rintro _ _ ⟨ad65, c65, rfl, hc65, rfl⟩
          refine JL_move rfl ?_
          refine JL_extract rfl rfl ?_
          refine JL_extract rfl rfl ?_
          refine JL_assign rfl ?_
          refine JL_assign rfl ?_
          refine JL_done_up 109 [] [_, _, _, _, _, _, _] rfl rfl (by simp only [nrmF]; rfl) rfl rfl ?_
          refine JC_seq ?_
          refine JC_seq ?_
          refine JC_region ?_
          refine JL_move rfl ?_
          refine JL_move rfl ?_
          refine JL_neq rfl rfl ?_
          rw [decide_eq_false (p := bothE (l) (bothR (m) (k) (cmpL (m) (k) (m).length)) (cmpL (l) (bothR (m) (k) (cmpL (m) (k) (m).length)) (l).length) ≠ bothE (l) (bothR (m) (k) (cmpL (m) (k) (m).length)) (cmpL (l) (bothR (m) (k) (cmpL (m) (k) (m).length)) (l).length)) (fun h => h rfl)]
          refine JL_move rfl ?_
          refine JL_guard_yes rfl rfl ?_
          refine JL_move rfl ?_
          refine JL_guard_yes rfl rfl ?_
          refine JL_move rfl ?_
          refine JL_guard_yes rfl rfl ?_
          refine JL_callF' (Asks.cons (holds_of_mem (by repeat (first | with_reducible exact mm0 | refine mmS ?_))) (Asks.cons (holds_of_mem (by repeat (first | with_reducible exact mm0 | refine mmS ?_))) Asks.nil)) (bpairs_con (l := bothR (l) (bothR (m) (k) (cmpL (m) (k) (m).length)) (cmpL (l) (bothR (m) (k) (cmpL (m) (k) (m).length)) (l).length)) (by have := both_len (l) (bothR (m) (k) (cmpL (m) (k) (m).length)) (cmpL (l) (bothR (m) (k) (cmpL (m) (k) (m).length)) (l).length); omega)) rfl ca20 ⟨rfl, rfl, rfl⟩ ?_
          rintro _ _ ⟨rfl, rfl⟩
          refine JL_guard_yes rfl rfl ?_
          refine JL_not rfl ?_
          rw [Bool.not_true]
          refine JL_pick_f rfl rfl ?_
          refine JL_done_up 109 [] [_, _, _, _, _, _, _] rfl rfl (by simp only [nrmF]; rfl) rfl rfl ?_
          refine JC_false rfl ?_
          refine JC_skip ?_
          refine JE_then ?_
          refine JC_seq ?_
          refine JC_region ?_
          refine JL_move rfl ?_
          refine JL_callF' (Asks.cons (holds_of_mem (by repeat (first | with_reducible exact mm0 | refine mmS ?_))) Asks.nil) (inv_con (by omega)) rfl ca12 ⟨rfl, rfl⟩ ?_
          rintro _ _ ⟨ad79, c79, rfl, hc79, rfl⟩
          refine JL_move rfl ?_
          refine JL_extract rfl rfl ?_
          refine JL_extract rfl rfl ?_
          refine JL_assign rfl ?_
          refine JL_assign rfl ?_
          refine JL_done_up 109 [] [_, _, _, _, _, _, _, _] rfl rfl (by simp only [nrmF]; rfl) rfl rfl ?_
          refine JC_seq ?_
          refine JC_region ?_
          refine JL_move rfl ?_
          refine JL_callF' (Asks.cons (holds_of_mem (by repeat (first | with_reducible exact mm0 | refine mmS ?_))) Asks.nil) (inv_con (l := m) (by omega)) rfl ca12 ⟨rfl, rfl⟩ ?_
          rintro _ _ ⟨ad84, c84, rfl, hc84, rfl⟩
          refine JL_move rfl ?_
          refine JL_extract rfl rfl ?_
          refine JL_extract rfl rfl ?_
          refine JL_assign rfl ?_
          refine JL_assign rfl ?_
          refine JL_done_up 109 [] [_, _, _, _, _, _, _, _, _] rfl rfl (by simp only [nrmF]; rfl) rfl rfl ?_
          refine JC_seq ?_
          refine JC_region ?_
          refine JL_move rfl ?_
          refine JL_move rfl ?_
          refine JL_callF' (Asks.cons (holds_of_mem (by repeat (first | with_reducible exact mm0 | refine mmS ?_))) (Asks.cons (holds_of_mem (by repeat (first | with_reducible exact mm0 | refine mmS ?_))) Asks.nil)) (compose_con (l := invR m) (m := invR l) (by omega) (by omega)) rfl ca26 ⟨rfl, rfl, rfl⟩ ?_
          rintro _ _ ⟨ad90, c90, rfl, hc90, rfl⟩
          rw [show bothR (invR m) (invR l) (cmpL (invR m) (invR l) (invR m).length) = invR (bothR (l) (m) (cmpL (l) (m) (l).length)) from (co_inv he).1, show bothE (invR m) (invR l) (cmpL (invR m) (invR l) (invR m).length) = 0 from (co_inv he).2]
          refine JL_move rfl ?_
          refine JL_extract rfl rfl ?_
          refine JL_extract rfl rfl ?_
          refine JL_assign rfl ?_
          refine JL_assign rfl ?_
          refine JL_done_up 109 [] [_, _, _, _, _, _, _, _, _, _] rfl rfl (by simp only [nrmF]; rfl) rfl rfl ?_
          refine JC_seq ?_
          refine JC_region ?_
          refine JL_move rfl ?_
          refine JL_callF' (Asks.cons (holds_of_mem (by repeat (first | with_reducible exact mm0 | refine mmS ?_))) Asks.nil) (inv_con (l := bothR (l) (m) (cmpL (l) (m) (l).length)) (by omega)) rfl ca12 ⟨rfl, rfl⟩ ?_
          rintro _ _ ⟨ad95, c95, rfl, hc95, rfl⟩
          rw [show valE (bothR (l) (m) (cmpL (l) (m) (l).length)) = 0 from (co_valE he).2.2]
          refine JL_move rfl ?_
          refine JL_extract rfl rfl ?_
          refine JL_extract rfl rfl ?_
          refine JL_assign rfl ?_
          refine JL_assign rfl ?_
          refine JL_done_up 109 [] [_, _, _, _, _, _, _, _, _, _, _] rfl rfl (by simp only [nrmF]; rfl) rfl rfl ?_
          refine JC_seq ?_
          refine JC_region ?_
          refine JL_move rfl ?_
          refine JL_eql rfl rfl ?_
          rw [decide_eq_true rfl]
          refine JL_move rfl ?_
          refine JL_guard_yes rfl rfl ?_
          refine JL_move rfl ?_
          refine JL_guard_yes rfl rfl ?_
          refine JL_eql rfl rfl ?_
          rw [decide_eq_true rfl]
          refine JL_pick_t rfl rfl ?_
          refine JL_move rfl ?_
          refine JL_guard_yes rfl rfl ?_
          refine JL_move rfl ?_
          refine JL_guard_yes rfl rfl ?_
          refine JL_move rfl ?_
          refine JL_guard_yes rfl rfl ?_
          refine JL_callF' (Asks.cons (holds_of_mem (by repeat (first | with_reducible exact mm0 | refine mmS ?_))) (Asks.cons (holds_of_mem (by repeat (first | with_reducible exact mm0 | refine mmS ?_))) Asks.nil)) (bpairs_con (l := invR (bothR (l) (m) (cmpL (l) (m) (l).length))) (by have := invR_len (bothR (l) (m) (cmpL (l) (m) (l).length)); omega)) rfl ca20 ⟨rfl, rfl, rfl⟩ ?_
          rintro _ _ ⟨rfl, rfl⟩
          refine JL_pick_t rfl rfl ?_
          refine JL_assign rfl ?_
          refine JL_done_up 109 [] [_, _, _, _, _, _, _, _, _, _, _] rfl rfl (by simp only [nrmF]; rfl) rfl rfl ?_
          refine JC_ret ?_
          refine JE_ret (vs := [_]) [] Try.results6 ⟨rfl, rfl⟩ ?_ ?_
          · exact ⟨rfl, rfl⟩
          · exact all_nil
    · refine JL_guard_yes rfl rfl ?_
      refine JL_not rfl ?_
      rw [Bool.not_false]
      refine JL_pick_f rfl rfl ?_
      refine JL_done_up 109 [] [_, _, _] rfl rfl (by simp only [nrmF]; rfl) rfl rfl ?_
      refine JC_true rfl ?_
      refine JC_seq ?_
      refine JC_region ?_
      refine JL_callF' Asks.nil (awake48_con) rfl ca10 rfl ?_
      rintro _ _ ⟨rfl, rfl⟩
      refine JL_assign rfl ?_
      refine JL_done_up 109 [] [_, _, _] rfl rfl (by simp only [nrmF]; rfl) rfl rfl ?_
      refine JC_ret ?_
      refine JE_then_ret ?_
      refine JE_ret (vs := [_]) [] Try.results6 ⟨rfl, rfl⟩ ?_ ?_
      · exact ⟨rfl, rfl⟩
      · exact all_nil
  · refine JL_guard_yes rfl rfl ?_
    refine JL_not rfl ?_
    rw [Bool.not_false]
    refine JL_pick_f rfl rfl ?_
    refine JL_move rfl ?_
    refine JL_guard_no rfl rfl ?_
    refine JL_guard_no rfl rfl ?_
    refine JL_guard_no rfl rfl ?_
    refine JL_guard_no rfl rfl ?_
    refine JL_pick_t rfl rfl ?_
    refine JL_done_up 109 [] [_, _, _] rfl rfl (by simp only [nrmF]; rfl) rfl rfl ?_
    refine JC_true rfl ?_
    refine JC_seq ?_
    refine JC_region ?_
    refine JL_callF' Asks.nil (awake48_con) rfl ca10 rfl ?_
    rintro _ _ ⟨rfl, rfl⟩
    refine JL_assign rfl ?_
    refine JL_done_up 109 [] [_, _, _] rfl rfl (by simp only [nrmF]; rfl) rfl rfl ?_
    refine JC_ret ?_
    refine JE_then_ret ?_
    refine JE_ret (vs := [_]) [] Try.results6 ⟨rfl, rfl⟩ ?_ ?_
    · exact ⟨rfl, rfl⟩
    · exact all_nil

end Go.Fw.K
