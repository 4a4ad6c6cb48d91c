/- Walks through functions of the given program: each meets its contract. (Printed by a program of this repo.) -/
import Derived.Test.YthaepkealhkkmaaQ15
import Derived.Test.YthaepkealhkkmaaProg
namespace Go.Fw.T6
open Go Go.RowKit Go.Proofs Go.Nat9 Go.Fw
attribute [local irreducible] JC JL JE
theorem ca10 : callable Try.prog 10 = true := by kernel_rfl
theorem ca12 : callable Try.prog 12 = true := by kernel_rfl
theorem ca20 : callable Try.prog 20 = true := by kernel_rfl
theorem ca22 : callable Try.prog 22 = true := by kernel_rfl
theorem ca31 : callable Try.prog 31 = true := by kernel_rfl
theorem ca32 : callable Try.prog 32 = true := by kernel_rfl
theorem fo41_0 : fOf Try.prog 41 0 = some 0 := by kernel_rfl
theorem fo41_1 : fOf Try.prog 41 1 = some 1 := by kernel_rfl
theorem sl28 : slOf Try.prog 28 = some (3, 1, 8, [.int .i64 0]) := by kernel_rfl
theorem sl39 : slOf Try.prog 39 = some (48, 2, 16, [.int .i64 0, .int .i64 0]) := by kernel_rfl
theorem ty28 : tyOf Try.prog 28 = some (false, 1) := by kernel_rfl
theorem ty39 : tyOf Try.prog 39 = some (false, 1) := by kernel_rfl
theorem ty41 : tyOf Try.prog 41 = some (true, 2) := by kernel_rfl
end Go.Fw.T6
namespace Go.Fw.K
open Go Go.RowKit Go.Proofs Go.Nat9 Go.Fw Go.Fw.T6
attribute [local irreducible] JC JL JE

set_option maxHeartbeats 4000000 in
theorem concordanceEditions_con {ad1 ad2 : Option Addr} {c1 c2 : Nat} {E : List Pr} {R : List Int} {ad3 ad4 : Option Addr} {c3 c4 : Nat} {F : List Pr} {S : List Int} :
    ConF Try.prog 8 [.agg #[.slice ad1 E.length c1, .slice ad2 R.length c2], .agg #[.slice ad3 F.length c3, .slice ad4 S.length c4]] [vCells ad1 (pcells E), vCells ad2 (i64s R), vCells ad3 (pcells F), vCells ad4 (i64s S)]
      (fun v φo => v = .bool true ∧ φo = []) := by
  refine ConF_of Try.func8 rfl 88 _ rfl rfl ?_
  intro w0
  refine JC_norm ⟨88, [], [_, _, _, _, _, _, _, _, _, _, _, _, _, _, _, _, _, _, _, _, _, _, _, _, _, _, _, _, _, _, _, _, _, _, _, _, _, _, _, _, _, _, _, _, _, _, _, _, _, _, _, _, _, _, _, _, _, _, _, _, _, _, _, _, _, _, _, _, _, _, _, _, _, _, _, _, _, _, _, _, _, _, _, _, _, _, _, _]⟩ [] [_, _, _, _] rfl rfl rfl ?_
  refine JC_seq ?_
  refine JC_region ?_
  refine JL_box rfl rfl (fun b2 => ?_)
  refine JL_box rfl rfl (fun b3 => ?_)
  refine JL_assign rfl ?_
  refine JL_done_up 88 [box _ _ [_, _], box _ _ [_, _]] [_, _, _, _] rfl rfl (by simp only [nrmF]; rfl) rfl rfl ?_
  refine JC_seq ?_
  refine JC_seq ?_
  refine JC_region ?_
  refine JL_callF' Asks.nil (awake48_con) rfl ca10 rfl ?_
  rintro _ _ ⟨rfl, rfl⟩
  refine JL_not rfl ?_
  rw [Bool.not_true]
  refine JL_move rfl ?_
  refine JL_guard_yes rfl rfl ?_
  refine JL_fieldAddr fo41_0 rfl ?_
  refine JL_guard_yes rfl rfl ?_
  refine JL_load 0 ty39 rfl rfl rfl ?_
  refine JL_guard_yes rfl rfl ?_
  refine JL_len sl39 rfl ?_
  refine JL_guard_yes rfl rfl ?_
  refine JL_gtr rfl rfl ?_
  refine JL_split (fun h19 => ?_) (fun h19 => ?_)
  · refine JL_pick_f rfl rfl ?_
    refine JL_move rfl ?_
    refine JL_guard_no rfl rfl ?_
    refine JL_guard_no rfl rfl ?_
    refine JL_guard_no rfl rfl ?_
    refine JL_guard_no rfl rfl ?_
    refine JL_pick_t rfl rfl ?_
    refine JL_move rfl ?_
    refine JL_guard_no rfl rfl ?_
    refine JL_guard_no rfl rfl ?_
    refine JL_guard_no rfl rfl ?_
    refine JL_guard_no rfl rfl ?_
    refine JL_pick_t rfl rfl ?_
    refine JL_move rfl ?_
    refine JL_guard_no rfl rfl ?_
    refine JL_guard_no rfl rfl ?_
    refine JL_guard_no rfl rfl ?_
    refine JL_guard_no rfl rfl ?_
    refine JL_pick_t rfl rfl ?_
    refine JL_done_up 88 [box _ _ [_, _], box _ _ [_, _]] [_, _, _, _] rfl rfl (by simp only [nrmF]; rfl) rfl rfl ?_
    refine JC_true rfl ?_
    refine JC_seq ?_
    refine JC_region ?_
    refine JL_callF' Asks.nil (awake48_con) rfl ca10 rfl ?_
    rintro _ _ ⟨rfl, rfl⟩
    refine JL_assign rfl ?_
    refine JL_done_up 88 [box _ _ [_, _], box _ _ [_, _]] [_, _, _, _] rfl rfl (by simp only [nrmF]; rfl) rfl rfl ?_
    refine JC_ret ?_
    refine JE_then_ret ?_
    refine JE_ret (vs := [_]) [] Try.results8 ⟨rfl, rfl⟩ ?_ ?_
    · exact ⟨rfl, rfl⟩
    · exact all_nil
  · refine JL_pick_f rfl rfl ?_
    refine JL_move rfl ?_
    refine JL_guard_yes rfl rfl ?_
    refine JL_fieldAddr fo41_0 rfl ?_
    refine JL_guard_yes rfl rfl ?_
    refine JL_load 1 ty39 rfl rfl rfl ?_
    refine JL_guard_yes rfl rfl ?_
    refine JL_len sl39 rfl ?_
    refine JL_guard_yes rfl rfl ?_
    refine JL_gtr rfl rfl ?_
    refine JL_split (fun h25 => ?_) (fun h25 => ?_)
    · refine JL_pick_f rfl rfl ?_
      refine JL_move rfl ?_
      refine JL_guard_no rfl rfl ?_
      refine JL_guard_no rfl rfl ?_
      refine JL_guard_no rfl rfl ?_
      refine JL_guard_no rfl rfl ?_
      refine JL_pick_t rfl rfl ?_
      refine JL_move rfl ?_
      refine JL_guard_no rfl rfl ?_
      refine JL_guard_no rfl rfl ?_
      refine JL_guard_no rfl rfl ?_
      refine JL_guard_no rfl rfl ?_
      refine JL_pick_t rfl rfl ?_
      refine JL_done_up 88 [box _ _ [_, _], box _ _ [_, _]] [_, _, _, _] rfl rfl (by simp only [nrmF]; rfl) rfl rfl ?_
      refine JC_true rfl ?_
      refine JC_seq ?_
      refine JC_region ?_
      refine JL_callF' Asks.nil (awake48_con) rfl ca10 rfl ?_
      rintro _ _ ⟨rfl, rfl⟩
      refine JL_assign rfl ?_
      refine JL_done_up 88 [box _ _ [_, _], box _ _ [_, _]] [_, _, _, _] rfl rfl (by simp only [nrmF]; rfl) rfl rfl ?_
      refine JC_ret ?_
      refine JE_then_ret ?_
      refine JE_ret (vs := [_]) [] Try.results8 ⟨rfl, rfl⟩ ?_ ?_
      · exact ⟨rfl, rfl⟩
      · exact all_nil
    · refine JL_pick_f rfl rfl ?_
      refine JL_move rfl ?_
      refine JL_guard_yes rfl rfl ?_
      refine JL_fieldAddr fo41_1 rfl ?_
      refine JL_guard_yes rfl rfl ?_
      refine JL_load 0 ty28 rfl rfl rfl ?_
      refine JL_guard_yes rfl rfl ?_
      refine JL_len sl28 rfl ?_
      refine JL_guard_yes rfl rfl ?_
      refine JL_gtr rfl rfl ?_
      refine JL_split (fun h31 => ?_) (fun h31 => ?_)
      · refine JL_pick_f rfl rfl ?_
        refine JL_move rfl ?_
        refine JL_guard_no rfl rfl ?_
        refine JL_guard_no rfl rfl ?_
        refine JL_guard_no rfl rfl ?_
        refine JL_guard_no rfl rfl ?_
        refine JL_pick_t rfl rfl ?_
        refine JL_done_up 88 [box _ _ [_, _], box _ _ [_, _]] [_, _, _, _] rfl rfl (by simp only [nrmF]; rfl) rfl rfl ?_
        refine JC_true rfl ?_
        refine JC_seq ?_
        refine JC_region ?_
        refine JL_callF' Asks.nil (awake48_con) rfl ca10 rfl ?_
        rintro _ _ ⟨rfl, rfl⟩
        refine JL_assign rfl ?_
        refine JL_done_up 88 [box _ _ [_, _], box _ _ [_, _]] [_, _, _, _] rfl rfl (by simp only [nrmF]; rfl) rfl rfl ?_
        refine JC_ret ?_
        refine JE_then_ret ?_
        refine JE_ret (vs := [_]) [] Try.results8 ⟨rfl, rfl⟩ ?_ ?_
        · exact ⟨rfl, rfl⟩
        · exact all_nil
      · refine JL_pick_f rfl rfl ?_
        refine JL_move rfl ?_
        refine JL_guard_yes rfl rfl ?_
        refine JL_fieldAddr fo41_1 rfl ?_
        refine JL_guard_yes rfl rfl ?_
        refine JL_load 1 ty28 rfl rfl rfl ?_
        refine JL_guard_yes rfl rfl ?_
        refine JL_len sl28 rfl ?_
        refine JL_guard_yes rfl rfl ?_
        refine JL_gtr rfl rfl ?_
        refine JL_split (fun h37 => ?_) (fun h37 => ?_)
        · refine JL_pick_f rfl rfl ?_
          refine JL_done_up 88 [box _ _ [_, _], box _ _ [_, _]] [_, _, _, _] rfl rfl (by simp only [nrmF]; rfl) rfl rfl ?_
          refine JC_true rfl ?_
          refine JC_seq ?_
          refine JC_region ?_
          refine JL_callF' Asks.nil (awake48_con) rfl ca10 rfl ?_
          rintro _ _ ⟨rfl, rfl⟩
          refine JL_assign rfl ?_
          refine JL_done_up 88 [box _ _ [_, _], box _ _ [_, _]] [_, _, _, _] rfl rfl (by simp only [nrmF]; rfl) rfl rfl ?_
          refine JC_ret ?_
          refine JE_then_ret ?_
          refine JE_ret (vs := [_]) [] Try.results8 ⟨rfl, rfl⟩ ?_ ?_
          · exact ⟨rfl, rfl⟩
          · exact all_nil
        · refine JL_pick_f rfl rfl ?_
          refine JL_done_up 88 [box _ _ [_, _], box _ _ [_, _]] [_, _, _, _] rfl rfl (by simp only [nrmF]; rfl) rfl rfl ?_
          refine JC_false rfl ?_
          refine JC_skip ?_
          refine JE_then ?_
          refine JC_seq ?_
          have hlen := ofR_len E F R S
          rcases Classical.em (edC E R ∧ edC F S) with hv | hv
          · have hvo := valid_of hv.1 hv.2
            have hil := invR_len (ofR E R F S)
            refine JC_region ?_
            refine JL_loadA (vs := [_, _]) 0 ty41 rfl rfl ⟨rfl, rfl, trivial⟩ ?_
            refine JL_loadA (vs := [_, _]) 1 ty41 rfl rfl ⟨rfl, rfl, trivial⟩ ?_
            refine JL_callF' (Asks.cons (holds_of_mem (by repeat (first | with_reducible exact mm0 | refine mmS ?_))) (Asks.cons (holds_of_mem (by repeat (first | with_reducible exact mm0 | refine mmS ?_))) (Asks.cons (holds_of_mem (by repeat (first | with_reducible exact mm0 | refine mmS ?_))) (Asks.cons (holds_of_mem (by repeat (first | with_reducible exact mm0 | refine mmS ?_))) Asks.nil)))) (of_con (by omega) (by omega) (by omega) (by omega)) rfl ca31 ⟨rfl, rfl, rfl⟩ ?_
            rintro _ _ ⟨ad43, c43, rfl, hc43, rfl⟩
            rw [(of_ok hv).2]
            refine JL_move rfl ?_
            refine JL_extract rfl rfl ?_
            refine JL_extract rfl rfl ?_
            refine JL_assign rfl ?_
            refine JL_assign rfl ?_
            refine JL_done_up 88 [box _ _ [_, _], box _ _ [_, _]] [_, _, _, _, _] rfl rfl (by simp only [nrmF]; rfl) rfl rfl ?_
            refine JC_seq ?_
            refine JC_region ?_
            refine JL_loadA (vs := [_, _]) 0 ty41 rfl rfl ⟨rfl, rfl, trivial⟩ ?_
            refine JL_loadA (vs := [_, _]) 1 ty41 rfl rfl ⟨rfl, rfl, trivial⟩ ?_
            refine JL_callF' (Asks.cons (holds_of_mem (by repeat (first | with_reducible exact mm0 | refine mmS ?_))) (Asks.cons (holds_of_mem (by repeat (first | with_reducible exact mm0 | refine mmS ?_))) (Asks.cons (holds_of_mem (by repeat (first | with_reducible exact mm0 | refine mmS ?_))) (Asks.cons (holds_of_mem (by repeat (first | with_reducible exact mm0 | refine mmS ?_))) Asks.nil)))) (rof_con (by omega) (by omega)) rfl ca32 ⟨rfl, rfl, rfl⟩ ?_
            rintro _ _ ⟨ad49, c49, rfl, hc49, rfl⟩
            rw [(of_ok hv).2]
            refine JL_move rfl ?_
            refine JL_extract rfl rfl ?_
            refine JL_extract rfl rfl ?_
            refine JL_assign rfl ?_
            refine JL_assign rfl ?_
            refine JL_done_up 88 [box _ _ [_, _], box _ _ [_, _]] [_, _, _, _, _, _] rfl rfl (by simp only [nrmF]; rfl) rfl rfl ?_
            refine JC_seq ?_
            refine JC_region ?_
            refine JL_loadA (vs := [_, _]) 1 ty41 rfl rfl ⟨rfl, rfl, trivial⟩ ?_
            refine JL_loadA (vs := [_, _]) 0 ty41 rfl rfl ⟨rfl, rfl, trivial⟩ ?_
            refine JL_callF' (Asks.cons (holds_of_mem (by repeat (first | with_reducible exact mm0 | refine mmS ?_))) (Asks.cons (holds_of_mem (by repeat (first | with_reducible exact mm0 | refine mmS ?_))) (Asks.cons (holds_of_mem (by repeat (first | with_reducible exact mm0 | refine mmS ?_))) (Asks.cons (holds_of_mem (by repeat (first | with_reducible exact mm0 | refine mmS ?_))) Asks.nil)))) (of_con (E := F) (F := E) (R := S) (S := R) (by omega) (by omega) (by omega) (by omega)) rfl ca31 ⟨rfl, rfl, rfl⟩ ?_
            rintro _ _ ⟨ad55, c55, rfl, hc55, rfl⟩
            rw [(of_ok hv.symm).2, of_inv hv.1 hv.2]
            refine JL_move rfl ?_
            refine JL_extract rfl rfl ?_
            refine JL_extract rfl rfl ?_
            refine JL_assign rfl ?_
            refine JL_assign rfl ?_
            refine JL_done_up 88 [box _ _ [_, _], box _ _ [_, _]] [_, _, _, _, _, _, _] rfl rfl (by simp only [nrmF]; rfl) rfl rfl ?_
            refine JC_seq ?_
            refine JC_region ?_
            refine JL_move rfl ?_
            refine JL_callF' (Asks.cons (holds_of_mem (by repeat (first | with_reducible exact mm0 | refine mmS ?_))) Asks.nil) (inv_con (l := ofR E R F S) (by omega)) rfl ca12 ⟨rfl, rfl⟩ ?_
            rintro _ _ ⟨ad60, c60, rfl, hc60, rfl⟩
            rw [valE_ok hvo]
            refine JL_move rfl ?_
            refine JL_extract rfl rfl ?_
            refine JL_extract rfl rfl ?_
            refine JL_assign rfl ?_
            refine JL_assign rfl ?_
            refine JL_done_up 88 [box _ _ [_, _], box _ _ [_, _]] [_, _, _, _, _, _, _, _] rfl rfl (by simp only [nrmF]; rfl) rfl rfl ?_
            refine JC_seq ?_
            refine JC_region ?_
            refine JL_move rfl ?_
            refine JL_move rfl ?_
            refine JL_callF' (Asks.cons (holds_of_mem (by repeat (first | with_reducible exact mm0 | refine mmS ?_))) (Asks.cons (holds_of_mem (by repeat (first | with_reducible exact mm0 | refine mmS ?_))) Asks.nil)) (bpairs_con (l := ofR E R F S) (by omega)) rfl ca20 ⟨rfl, rfl, rfl⟩ ?_
            rintro _ _ ⟨rfl, rfl⟩
            refine JL_move rfl ?_
            refine JL_guard_yes rfl rfl ?_
            refine JL_move rfl ?_
            refine JL_guard_yes rfl rfl ?_
            refine JL_move rfl ?_
            refine JL_guard_yes rfl rfl ?_
            refine JL_eql rfl rfl ?_
            rw [decide_eq_true rfl]
            refine JL_pick_t rfl rfl ?_
            refine JL_move rfl ?_
            refine JL_guard_yes rfl rfl ?_
            refine JL_move rfl ?_
            refine JL_guard_yes rfl rfl ?_
            refine JL_neq rfl rfl ?_
            rw [decide_eq_false (p := (0 : Int) ≠ 0) (by decide)]
            refine JL_guard_yes rfl rfl ?_
            refine JL_move rfl ?_
            refine JL_guard_yes rfl rfl ?_
            refine JL_move rfl ?_
            refine JL_guard_yes rfl rfl ?_
            refine JL_eql rfl rfl ?_
            rw [decide_eq_true rfl]
            refine JL_guard_yes rfl rfl ?_
            refine JL_move rfl ?_
            refine JL_guard_yes rfl rfl ?_
            refine JL_move rfl ?_
            refine JL_guard_yes rfl rfl ?_
            refine JL_move rfl ?_
            refine JL_guard_yes rfl rfl ?_
            refine JL_callF' (Asks.cons (holds_of_mem (by repeat (first | with_reducible exact mm0 | refine mmS ?_))) (Asks.cons (holds_of_mem (by repeat (first | with_reducible exact mm0 | refine mmS ?_))) Asks.nil)) (bpairs_con (l := invR (ofR E R F S)) (by omega)) rfl ca20 ⟨rfl, rfl, rfl⟩ ?_
            rintro _ _ ⟨rfl, rfl⟩
            refine JL_guard_yes rfl rfl ?_
            refine JL_pick_t rfl rfl ?_
            refine JL_guard_yes rfl rfl ?_
            refine JL_move rfl ?_
            refine JL_guard_yes rfl rfl ?_
            refine JL_move rfl ?_
            refine JL_guard_yes rfl rfl ?_
            refine JL_callF' (Asks.cons (holds_of_mem (by repeat (first | with_reducible exact mm0 | refine mmS ?_))) Asks.nil) (ex_con (l := ofR E R F S) (by omega)) rfl ca22 ⟨rfl, rfl⟩ ?_
            rintro _ _ ⟨rfl, rfl⟩
            rw [of_exact hv.1 hv.2]
            refine JL_guard_yes rfl rfl ?_
            refine JL_pick_t rfl rfl ?_
            refine JL_guard_yes rfl rfl ?_
            refine JL_pick_f rfl rfl ?_
            refine JL_pick_t rfl rfl ?_
            refine JL_assign rfl ?_
            refine JL_done_up 88 [box _ _ [_, _], box _ _ [_, _]] [_, _, _, _, _, _, _, _] rfl rfl (by simp only [nrmF]; rfl) rfl rfl ?_
            refine JC_ret ?_
            refine JE_ret (vs := [_]) [] Try.results8 ⟨rfl, rfl⟩ ?_ ?_
            · exact ⟨rfl, rfl⟩
            · exact all_nil
          · refine JC_region ?_
            refine JL_loadA (vs := [_, _]) 0 ty41 rfl rfl ⟨rfl, rfl, trivial⟩ ?_
            refine JL_loadA (vs := [_, _]) 1 ty41 rfl rfl ⟨rfl, rfl, trivial⟩ ?_
            refine JL_callF' (Asks.cons (holds_of_mem (by repeat (first | with_reducible exact mm0 | refine mmS ?_))) (Asks.cons (holds_of_mem (by repeat (first | with_reducible exact mm0 | refine mmS ?_))) (Asks.cons (holds_of_mem (by repeat (first | with_reducible exact mm0 | refine mmS ?_))) (Asks.cons (holds_of_mem (by repeat (first | with_reducible exact mm0 | refine mmS ?_))) Asks.nil)))) (of_con (by omega) (by omega) (by omega) (by omega)) rfl ca31 ⟨rfl, rfl, rfl⟩ ?_
            rintro _ _ ⟨ad43, c43, rfl, hc43, rfl⟩
            rw [(of_no hv).2]
            refine JL_move rfl ?_
            refine JL_extract rfl rfl ?_
            refine JL_extract rfl rfl ?_
            refine JL_assign rfl ?_
            refine JL_assign rfl ?_
            refine JL_done_up 88 [box _ _ [_, _], box _ _ [_, _]] [_, _, _, _, _] rfl rfl (by simp only [nrmF]; rfl) rfl rfl ?_
            refine JC_seq ?_
            refine JC_region ?_
            refine JL_loadA (vs := [_, _]) 0 ty41 rfl rfl ⟨rfl, rfl, trivial⟩ ?_
            refine JL_loadA (vs := [_, _]) 1 ty41 rfl rfl ⟨rfl, rfl, trivial⟩ ?_
            refine JL_callF' (Asks.cons (holds_of_mem (by repeat (first | with_reducible exact mm0 | refine mmS ?_))) (Asks.cons (holds_of_mem (by repeat (first | with_reducible exact mm0 | refine mmS ?_))) (Asks.cons (holds_of_mem (by repeat (first | with_reducible exact mm0 | refine mmS ?_))) (Asks.cons (holds_of_mem (by repeat (first | with_reducible exact mm0 | refine mmS ?_))) Asks.nil)))) (rof_con (by omega) (by omega)) rfl ca32 ⟨rfl, rfl, rfl⟩ ?_
            rintro _ _ ⟨ad49, c49, rfl, hc49, rfl⟩
            rw [(of_no hv).2]
            refine JL_move rfl ?_
            refine JL_extract rfl rfl ?_
            refine JL_extract rfl rfl ?_
            refine JL_assign rfl ?_
            refine JL_assign rfl ?_
            refine JL_done_up 88 [box _ _ [_, _], box _ _ [_, _]] [_, _, _, _, _, _] rfl rfl (by simp only [nrmF]; rfl) rfl rfl ?_
            refine JC_seq ?_
            refine JC_region ?_
            refine JL_loadA (vs := [_, _]) 1 ty41 rfl rfl ⟨rfl, rfl, trivial⟩ ?_
            refine JL_loadA (vs := [_, _]) 0 ty41 rfl rfl ⟨rfl, rfl, trivial⟩ ?_
            refine JL_callF' (Asks.cons (holds_of_mem (by repeat (first | with_reducible exact mm0 | refine mmS ?_))) (Asks.cons (holds_of_mem (by repeat (first | with_reducible exact mm0 | refine mmS ?_))) (Asks.cons (holds_of_mem (by repeat (first | with_reducible exact mm0 | refine mmS ?_))) (Asks.cons (holds_of_mem (by repeat (first | with_reducible exact mm0 | refine mmS ?_))) Asks.nil)))) (of_con (E := F) (F := E) (R := S) (S := R) (by omega) (by omega) (by omega) (by omega)) rfl ca31 ⟨rfl, rfl, rfl⟩ ?_
            rintro _ _ ⟨ad55, c55, rfl, hc55, rfl⟩
            refine JL_move rfl ?_
            refine JL_extract rfl rfl ?_
            refine JL_extract rfl rfl ?_
            refine JL_assign rfl ?_
            refine JL_assign rfl ?_
            refine JL_done_up 88 [box _ _ [_, _], box _ _ [_, _]] [_, _, _, _, _, _, _] rfl rfl (by simp only [nrmF]; rfl) rfl rfl ?_
            refine JC_seq ?_
            refine JC_region ?_
            refine JL_move rfl ?_
            refine JL_callF' (Asks.cons (holds_of_mem (by repeat (first | with_reducible exact mm0 | refine mmS ?_))) Asks.nil) (inv_con (l := ofR E R F S) (by omega)) rfl ca12 ⟨rfl, rfl⟩ ?_
            rintro _ _ ⟨ad60, c60, rfl, hc60, rfl⟩
            refine JL_move rfl ?_
            refine JL_extract rfl rfl ?_
            refine JL_extract rfl rfl ?_
            refine JL_assign rfl ?_
            refine JL_assign rfl ?_
            refine JL_done_up 88 [box _ _ [_, _], box _ _ [_, _]] [_, _, _, _, _, _, _, _] rfl rfl (by simp only [nrmF]; rfl) rfl rfl ?_
            refine JC_seq ?_
            refine JC_region ?_
            refine JL_move rfl ?_
            refine JL_move rfl ?_
            refine JL_callF' (Asks.cons (holds_of_mem (by repeat (first | with_reducible exact mm0 | refine mmS ?_))) (Asks.cons (holds_of_mem (by repeat (first | with_reducible exact mm0 | refine mmS ?_))) Asks.nil)) (bpairs_con (l := ofR E R F S) (by omega)) rfl ca20 ⟨rfl, rfl, rfl⟩ ?_
            rintro _ _ ⟨rfl, rfl⟩
            refine JL_move rfl ?_
            refine JL_guard_yes rfl rfl ?_
            refine JL_move rfl ?_
            refine JL_guard_yes rfl rfl ?_
            refine JL_move rfl ?_
            refine JL_guard_yes rfl rfl ?_
            refine JL_eql rfl rfl ?_
            rw [decide_eq_true rfl]
            refine JL_pick_t rfl rfl ?_
            refine JL_move rfl ?_
            refine JL_guard_yes rfl rfl ?_
            refine JL_move rfl ?_
            refine JL_guard_yes rfl rfl ?_
            refine JL_neq rfl rfl ?_
            rw [decide_eq_true (p := (1 : Int) ≠ 0) (by decide)]
            refine JL_guard_yes rfl rfl ?_
            refine JL_move rfl ?_
            refine JL_guard_no rfl rfl ?_
            refine JL_guard_no rfl rfl ?_
            refine JL_guard_no rfl rfl ?_
            refine JL_guard_un rfl rfl ?_
            refine JL_guard_un rfl rfl ?_
            refine JL_guard_un rfl rfl ?_
            refine JL_guard_no rfl rfl ?_
            refine JL_guard_no rfl rfl ?_
            refine JL_guard_un rfl rfl ?_
            refine JL_guard_un rfl rfl ?_
            refine JL_guard_no rfl rfl ?_
            refine JL_guard_yes rfl rfl ?_
            refine JL_pick_t rfl rfl ?_
            refine JL_pick_t rfl rfl ?_
            refine JL_assign rfl ?_
            refine JL_done_up 88 [box _ _ [_, _], box _ _ [_, _]] [_, _, _, _, _, _, _, _] rfl rfl (by simp only [nrmF]; rfl) rfl rfl ?_
            refine JC_ret ?_
            refine JE_ret (vs := [_]) [] Try.results8 ⟨rfl, rfl⟩ ?_ ?_
            · exact ⟨rfl, rfl⟩
            · exact all_nil

end Go.Fw.K
