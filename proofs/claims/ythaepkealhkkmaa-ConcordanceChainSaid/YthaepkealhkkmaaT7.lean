/- Walks through functions of the given program: each meets its contract. (Printed by a program of this repo.) -/
import Derived.Test.YthaepkealhkkmaaQ15
import Derived.Test.YthaepkealhkkmaaProg
namespace Go.Fw.T7
open Go Go.RowKit Go.Proofs Go.Nat9 Go.Fw
attribute [local irreducible] JC JL JE
theorem ca10 : callable Try.prog 10 = true := by kernel_rfl
theorem ca20 : callable Try.prog 20 = true := by kernel_rfl
theorem ca26 : callable Try.prog 26 = true := by kernel_rfl
theorem ca31 : callable Try.prog 31 = true := by kernel_rfl
theorem ca33 : callable Try.prog 33 = true := by kernel_rfl
theorem ca34 : callable Try.prog 34 = true := by kernel_rfl
theorem ca35 : callable Try.prog 35 = true := by kernel_rfl
theorem fo41_0 : fOf Try.prog 41 0 = some 0 := by kernel_rfl
theorem fo48_0 : fOf Try.prog 48 0 = some 0 := by kernel_rfl
theorem mixed : Try.prog.follows .mixedOrders = true := by kernel_rfl
theorem sl39 : slOf Try.prog 39 = some (48, 2, 16, [.int .i64 0, .int .i64 0]) := by kernel_rfl
theorem ty3 : tyOf Try.prog 3 = some (false, 1) := by kernel_rfl
theorem ty39 : tyOf Try.prog 39 = some (false, 1) := by kernel_rfl
theorem ty41 : tyOf Try.prog 41 = some (true, 2) := by kernel_rfl
end Go.Fw.T7
namespace Go.Fw.K
open Go Go.RowKit Go.Proofs Go.Nat9 Go.Fw Go.Fw.T7
attribute [local irreducible] JC JL JE

set_option maxHeartbeats 4000000 in
set_option maxRecDepth 20000 in
theorem concordanceChain_con {ad1 ad2 : Option Addr} {c1 c2 : Nat} {E : List Pr} {R : List Int} {ad3 ad4 : Option Addr} {c3 c4 : Nat} {F : List Pr} {S : List Int} {ad5 ad6 : Option Addr} {c5 c6 : Nat} {G : List Pr} {U : List Int} :
    ConF Try.prog 9 [.agg #[.slice ad1 E.length c1, .slice ad2 R.length c2], .agg #[.slice ad3 F.length c3, .slice ad4 S.length c4], .agg #[.slice ad5 G.length c5, .slice ad6 U.length c6]] [vCells ad1 (pcells E), vCells ad2 (i64s R), vCells ad3 (pcells F), vCells ad4 (i64s S), vCells ad5 (pcells G), vCells ad6 (i64s U)]
      (fun v φo => v = .bool true ∧ φo = []) := by
  refine ConF_of Try.func9 rfl 138 _ rfl rfl ?_
  intro w0
  refine JC_norm ⟨138, [], [_, _, _, _, _, _, _, _, _, _, _, _, _, _, _, _, _, _, _, _, _, _, _, _, _, _, _, _, _, _, _, _, _, _, _, _, _, _, _, _, _, _, _, _, _, _, _, _, _, _, _, _, _, _, _, _, _, _, _, _, _, _, _, _, _, _, _, _, _, _, _, _, _, _, _, _, _, _, _, _, _, _, _, _, _, _, _, _, _, _, _, _, _, _, _, _, _, _, _, _, _, _, _, _, _, _, _, _, _, _, _, _, _, _, _, _, _, _, _, _, _, _, _, _, _, _, _, _, _, _, _, _, _, _, _, _, _, _]⟩ [] [_, _, _, _, _, _] rfl rfl rfl ?_
  refine JC_seq ?_
  refine JC_region ?_
  refine JL_box rfl rfl (fun b3 => ?_)
  refine JL_box rfl rfl (fun b4 => ?_)
  refine JL_box rfl rfl (fun b5 => ?_)
  refine JL_assign rfl ?_
  refine JL_done_up 138 [box _ _ [_, _], box _ _ [_, _], box _ _ [_, _]] [_, _, _, _, _, _] rfl rfl (by simp only [nrmF]; rfl) rfl rfl ?_
  refine JC_seq ?_
  refine JC_seq ?_
  refine JC_region ?_
  refine JL_callF' Asks.nil (awake48_con) rfl ca10 rfl ?_
  rintro _ _ ⟨rfl, rfl⟩
  refine JL_not rfl ?_
  rw [Bool.not_true]
  refine JL_move rfl ?_
  refine JL_guard_yes rfl rfl ?_
  refine JL_fieldAddr fo41_0 rfl ?_
  refine JL_guard_yes rfl rfl ?_
  refine JL_load 0 ty39 rfl rfl rfl ?_
  refine JL_guard_yes rfl rfl ?_
  refine JL_len sl39 rfl ?_
  refine JL_guard_yes rfl rfl ?_
  refine JL_gtr rfl rfl ?_
  refine JL_split (fun h26 => ?_) (fun h26 => ?_)
  · refine JL_pick_f rfl rfl ?_
    refine JL_move rfl ?_
    refine JL_guard_no rfl rfl ?_
    refine JL_guard_no rfl rfl ?_
    refine JL_guard_no rfl rfl ?_
    refine JL_guard_no rfl rfl ?_
    refine JL_pick_t rfl rfl ?_
    refine JL_move rfl ?_
    refine JL_guard_no rfl rfl ?_
    refine JL_guard_no rfl rfl ?_
    refine JL_guard_no rfl rfl ?_
    refine JL_guard_no rfl rfl ?_
    refine JL_pick_t rfl rfl ?_
    refine JL_move rfl ?_
    refine JL_guard_no rfl rfl ?_
    refine JL_guard_no rfl rfl ?_
    refine JL_guard_no rfl rfl ?_
    refine JL_pick_t rfl rfl ?_
    refine JL_move rfl ?_
    refine JL_guard_no rfl rfl ?_
    refine JL_guard_no rfl rfl ?_
    refine JL_guard_no rfl rfl ?_
    refine JL_pick_t rfl rfl ?_
    refine JL_move rfl ?_
    refine JL_guard_no rfl rfl ?_
    refine JL_guard_no rfl rfl ?_
    refine JL_guard_no rfl rfl ?_
    refine JL_pick_t rfl rfl ?_
    refine JL_done_up 138 [box _ _ [_, _], box _ _ [_, _], box _ _ [_, _]] [_, _, _, _, _, _] rfl rfl (by simp only [nrmF]; rfl) rfl rfl ?_
    refine JC_true rfl ?_
    refine JC_seq ?_
    refine JC_region ?_
    refine JL_callF' Asks.nil (awake48_con) rfl ca10 rfl ?_
    rintro _ _ ⟨rfl, rfl⟩
    refine JL_assign rfl ?_
    refine JL_done_up 138 [box _ _ [_, _], box _ _ [_, _], box _ _ [_, _]] [_, _, _, _, _, _] rfl rfl (by simp only [nrmF]; rfl) rfl rfl ?_
    refine JC_ret ?_
    refine JE_then_ret ?_
    refine JE_ret (vs := [_]) [] Try.results9 ⟨rfl, rfl⟩ ?_ ?_
    · exact ⟨rfl, rfl⟩
    · exact all_nil
  · refine JL_pick_f rfl rfl ?_
    refine JL_move rfl ?_
    refine JL_guard_yes rfl rfl ?_
    refine JL_fieldAddr fo41_0 rfl ?_
    refine JL_guard_yes rfl rfl ?_
    refine JL_load 1 ty39 rfl rfl rfl ?_
    refine JL_guard_yes rfl rfl ?_
    refine JL_len sl39 rfl ?_
    refine JL_guard_yes rfl rfl ?_
    refine JL_gtr rfl rfl ?_
    refine JL_split (fun h32 => ?_) (fun h32 => ?_)
    · refine JL_pick_f rfl rfl ?_
      refine JL_move rfl ?_
      refine JL_guard_no rfl rfl ?_
      refine JL_guard_no rfl rfl ?_
      refine JL_guard_no rfl rfl ?_
      refine JL_guard_no rfl rfl ?_
      refine JL_pick_t rfl rfl ?_
      refine JL_move rfl ?_
      refine JL_guard_no rfl rfl ?_
      refine JL_guard_no rfl rfl ?_
      refine JL_guard_no rfl rfl ?_
      refine JL_pick_t rfl rfl ?_
      refine JL_move rfl ?_
      refine JL_guard_no rfl rfl ?_
      refine JL_guard_no rfl rfl ?_
      refine JL_guard_no rfl rfl ?_
      refine JL_pick_t rfl rfl ?_
      refine JL_move rfl ?_
      refine JL_guard_no rfl rfl ?_
      refine JL_guard_no rfl rfl ?_
      refine JL_guard_no rfl rfl ?_
      refine JL_pick_t rfl rfl ?_
      refine JL_done_up 138 [box _ _ [_, _], box _ _ [_, _], box _ _ [_, _]] [_, _, _, _, _, _] rfl rfl (by simp only [nrmF]; rfl) rfl rfl ?_
      refine JC_true rfl ?_
      refine JC_seq ?_
      refine JC_region ?_
      refine JL_callF' Asks.nil (awake48_con) rfl ca10 rfl ?_
      rintro _ _ ⟨rfl, rfl⟩
      refine JL_assign rfl ?_
      refine JL_done_up 138 [box _ _ [_, _], box _ _ [_, _], box _ _ [_, _]] [_, _, _, _, _, _] rfl rfl (by simp only [nrmF]; rfl) rfl rfl ?_
      refine JC_ret ?_
      refine JE_then_ret ?_
      refine JE_ret (vs := [_]) [] Try.results9 ⟨rfl, rfl⟩ ?_ ?_
      · exact ⟨rfl, rfl⟩
      · exact all_nil
    · refine JL_pick_f rfl rfl ?_
      refine JL_move rfl ?_
      refine JL_guard_yes rfl rfl ?_
      refine JL_fieldAddr fo41_0 rfl ?_
      refine JL_guard_yes rfl rfl ?_
      refine JL_load 2 ty39 rfl rfl rfl ?_
      refine JL_guard_yes rfl rfl ?_
      refine JL_len sl39 rfl ?_
      refine JL_guard_yes rfl rfl ?_
      refine JL_gtr rfl rfl ?_
      refine JL_split (fun h38 => ?_) (fun h38 => ?_)
      · refine JL_pick_f rfl rfl ?_
        refine JL_move rfl ?_
        refine JL_guard_no rfl rfl ?_
        refine JL_guard_no rfl rfl ?_
        refine JL_guard_no rfl rfl ?_
        refine JL_pick_t rfl rfl ?_
        refine JL_move rfl ?_
        refine JL_guard_no rfl rfl ?_
        refine JL_guard_no rfl rfl ?_
        refine JL_guard_no rfl rfl ?_
        refine JL_pick_t rfl rfl ?_
        refine JL_move rfl ?_
        refine JL_guard_no rfl rfl ?_
        refine JL_guard_no rfl rfl ?_
        refine JL_guard_no rfl rfl ?_
        refine JL_pick_t rfl rfl ?_
        refine JL_done_up 138 [box _ _ [_, _], box _ _ [_, _], box _ _ [_, _]] [_, _, _, _, _, _] rfl rfl (by simp only [nrmF]; rfl) rfl rfl ?_
        refine JC_true rfl ?_
        refine JC_seq ?_
        refine JC_region ?_
        refine JL_callF' Asks.nil (awake48_con) rfl ca10 rfl ?_
        rintro _ _ ⟨rfl, rfl⟩
        refine JL_assign rfl ?_
        refine JL_done_up 138 [box _ _ [_, _], box _ _ [_, _], box _ _ [_, _]] [_, _, _, _, _, _] rfl rfl (by simp only [nrmF]; rfl) rfl rfl ?_
        refine JC_ret ?_
        refine JE_then_ret ?_
        refine JE_ret (vs := [_]) [] Try.results9 ⟨rfl, rfl⟩ ?_ ?_
        · exact ⟨rfl, rfl⟩
        · exact all_nil
      · refine JL_pick_f rfl rfl ?_
        refine JL_move rfl ?_
        refine JL_guard_yes rfl rfl ?_
        refine JL_loadA (vs := [_, _]) 0 ty41 rfl rfl ⟨rfl, rfl, trivial⟩ ?_
        refine JL_guard_yes rfl rfl ?_
        refine JL_callF' (Asks.cons (holds_of_mem (by repeat (first | with_reducible exact mm0 | refine mmS ?_))) (Asks.cons (holds_of_mem (by repeat (first | with_reducible exact mm0 | refine mmS ?_))) Asks.nil)) (redv_con (by omega)) rfl ca33 ⟨rfl, rfl⟩ ?_
        rintro _ _ ⟨rfl, rfl⟩
        refine JL_split (fun h42 => ?_) (fun h42 => ?_)
        · refine JL_guard_yes rfl rfl ?_
          refine JL_not rfl ?_
          rw [Bool.not_true]
          refine JL_pick_f rfl rfl ?_
          refine JL_move rfl ?_
          refine JL_guard_yes rfl rfl ?_
          refine JL_loadA (vs := [_, _]) 1 ty41 rfl rfl ⟨rfl, rfl, trivial⟩ ?_
          refine JL_guard_yes rfl rfl ?_
          refine JL_callF' (Asks.cons (holds_of_mem (by repeat (first | with_reducible exact mm0 | refine mmS ?_))) (Asks.cons (holds_of_mem (by repeat (first | with_reducible exact mm0 | refine mmS ?_))) Asks.nil)) (redv_con (E := F) (R := S) (by omega)) rfl ca33 ⟨rfl, rfl⟩ ?_
          rintro _ _ ⟨rfl, rfl⟩
          refine JL_split (fun h47 => ?_) (fun h47 => ?_)
          · refine JL_guard_yes rfl rfl ?_
            refine JL_not rfl ?_
            rw [Bool.not_true]
            refine JL_pick_f rfl rfl ?_
            refine JL_move rfl ?_
            refine JL_guard_yes rfl rfl ?_
            refine JL_loadA (vs := [_, _]) 2 ty41 rfl rfl ⟨rfl, rfl, trivial⟩ ?_
            refine JL_guard_yes rfl rfl ?_
            refine JL_callF' (Asks.cons (holds_of_mem (by repeat (first | with_reducible exact mm0 | refine mmS ?_))) (Asks.cons (holds_of_mem (by repeat (first | with_reducible exact mm0 | refine mmS ?_))) Asks.nil)) (redv_con (E := G) (R := U) (by omega)) rfl ca33 ⟨rfl, rfl⟩ ?_
            rintro _ _ ⟨rfl, rfl⟩
            refine JL_split (fun h52 => ?_) (fun h52 => ?_)
            · refine JL_guard_yes rfl rfl ?_
              refine JL_not rfl ?_
              rw [Bool.not_true]
              refine JL_pick_f rfl rfl ?_
              refine JL_done_up 138 [box _ _ [_, _], box _ _ [_, _], box _ _ [_, _]] [_, _, _, _, _, _] rfl rfl (by simp only [nrmF]; rfl) rfl rfl ?_
              refine JC_false rfl ?_
              refine JC_skip ?_
              refine JE_then ?_
              refine JC_seq ?_
              have hl1 := edC_len h42
              have hl2 := edC_len h47
              have hl3 := edC_len h52
              have hm1 := ofR_len E F R S
              have hm2 := ofR_len F G S U
              have hm3 := ofR_len E G R U
              have hbo := both_len (ofR E R F S) (ofR F S G U) (cmpL (ofR E R F S) (ofR F S G U) (ofR E R F S).length)
              refine JC_region ?_
              refine JL_loadA (vs := [_, _]) 0 ty41 rfl rfl ⟨rfl, rfl, trivial⟩ ?_
              refine JL_loadA (vs := [_, _]) 1 ty41 rfl rfl ⟨rfl, rfl, trivial⟩ ?_
              refine JL_callF' (Asks.cons (holds_of_mem (by repeat (first | with_reducible exact mm0 | refine mmS ?_))) (Asks.cons (holds_of_mem (by repeat (first | with_reducible exact mm0 | refine mmS ?_))) (Asks.cons (holds_of_mem (by repeat (first | with_reducible exact mm0 | refine mmS ?_))) (Asks.cons (holds_of_mem (by repeat (first | with_reducible exact mm0 | refine mmS ?_))) Asks.nil)))) (of_con (by omega) (by omega) (by omega) (by omega)) rfl ca31 ⟨rfl, rfl, rfl⟩ ?_
              rintro _ _ ⟨ad59, c59, rfl, hc59, rfl⟩
              rw [(of_ok ⟨h42, h47⟩).2]
              refine JL_move rfl ?_
              refine JL_extract rfl rfl ?_
              refine JL_extract rfl rfl ?_
              refine JL_assign rfl ?_
              refine JL_assign rfl ?_
              refine JL_done_up 138 [box _ _ [_, _], box _ _ [_, _], box _ _ [_, _]] [_, _, _, _, _, _, _] rfl rfl (by simp only [nrmF]; rfl) rfl rfl ?_
              refine JC_seq ?_
              refine JC_region ?_
              refine JL_loadA (vs := [_, _]) 1 ty41 rfl rfl ⟨rfl, rfl, trivial⟩ ?_
              refine JL_loadA (vs := [_, _]) 2 ty41 rfl rfl ⟨rfl, rfl, trivial⟩ ?_
              refine JL_callF' (Asks.cons (holds_of_mem (by repeat (first | with_reducible exact mm0 | refine mmS ?_))) (Asks.cons (holds_of_mem (by repeat (first | with_reducible exact mm0 | refine mmS ?_))) (Asks.cons (holds_of_mem (by repeat (first | with_reducible exact mm0 | refine mmS ?_))) (Asks.cons (holds_of_mem (by repeat (first | with_reducible exact mm0 | refine mmS ?_))) Asks.nil)))) (of_con (E := F) (F := G) (R := S) (S := U) (by omega) (by omega) (by omega) (by omega)) rfl ca31 ⟨rfl, rfl, rfl⟩ ?_
              rintro _ _ ⟨ad65, c65, rfl, hc65, rfl⟩
              rw [(of_ok ⟨h47, h52⟩).2]
              refine JL_move rfl ?_
              refine JL_extract rfl rfl ?_
              refine JL_extract rfl rfl ?_
              refine JL_assign rfl ?_
              refine JL_assign rfl ?_
              refine JL_done_up 138 [box _ _ [_, _], box _ _ [_, _], box _ _ [_, _]] [_, _, _, _, _, _, _, _] rfl rfl (by simp only [nrmF]; rfl) rfl rfl ?_
              refine JC_seq ?_
              refine JC_region ?_
              refine JL_loadA (vs := [_, _]) 0 ty41 rfl rfl ⟨rfl, rfl, trivial⟩ ?_
              refine JL_loadA (vs := [_, _]) 2 ty41 rfl rfl ⟨rfl, rfl, trivial⟩ ?_
              refine JL_callF' (Asks.cons (holds_of_mem (by repeat (first | with_reducible exact mm0 | refine mmS ?_))) (Asks.cons (holds_of_mem (by repeat (first | with_reducible exact mm0 | refine mmS ?_))) (Asks.cons (holds_of_mem (by repeat (first | with_reducible exact mm0 | refine mmS ?_))) (Asks.cons (holds_of_mem (by repeat (first | with_reducible exact mm0 | refine mmS ?_))) Asks.nil)))) (of_con (E := E) (F := G) (R := R) (S := U) (by omega) (by omega) (by omega) (by omega)) rfl ca31 ⟨rfl, rfl, rfl⟩ ?_
              rintro _ _ ⟨ad71, c71, rfl, hc71, rfl⟩
              rw [(of_ok ⟨h42, h52⟩).2]
              refine JL_move rfl ?_
              refine JL_extract rfl rfl ?_
              refine JL_extract rfl rfl ?_
              refine JL_assign rfl ?_
              refine JL_assign rfl ?_
              refine JL_done_up 138 [box _ _ [_, _], box _ _ [_, _], box _ _ [_, _]] [_, _, _, _, _, _, _, _, _] rfl rfl (by simp only [nrmF]; rfl) rfl rfl ?_
              refine JC_seq ?_
              refine JC_region ?_
              refine JL_move rfl ?_
              refine JL_move rfl ?_
              refine JL_callF' (Asks.cons (holds_of_mem (by repeat (first | with_reducible exact mm0 | refine mmS ?_))) (Asks.cons (holds_of_mem (by repeat (first | with_reducible exact mm0 | refine mmS ?_))) Asks.nil)) (compose_con (l := ofR E R F S) (m := ofR F S G U) (by omega) (by omega)) rfl ca26 ⟨rfl, rfl, rfl⟩ ?_
              rintro _ _ ⟨ad77, c77, rfl, hc77, rfl⟩
              rw [show bothE (ofR E R F S) (ofR F S G U) (cmpL (ofR E R F S) (ofR F S G U) (ofR E R F S).length) = 0 from over_ok h42 h47 h52]
              refine JL_move rfl ?_
              refine JL_extract rfl rfl ?_
              refine JL_extract rfl rfl ?_
              refine JL_assign rfl ?_
              refine JL_assign rfl ?_
              refine JL_done_up 138 [box _ _ [_, _], box _ _ [_, _], box _ _ [_, _]] [_, _, _, _, _, _, _, _, _, _] rfl rfl (by simp only [nrmF]; rfl) rfl rfl ?_
              refine JC_seq ?_
              refine JC_seq ?_
              refine JC_region ?_
              refine JL_move rfl ?_
              refine JL_neq rfl rfl ?_
              rw [decide_eq_false (p := (0 : Int) ≠ 0) (by decide)]
              refine JL_move rfl ?_
              refine JL_guard_yes rfl rfl ?_
              refine JL_move rfl ?_
              refine JL_guard_yes rfl rfl ?_
              refine JL_neq rfl rfl ?_
              rw [decide_eq_false (p := (0 : Int) ≠ 0) (by decide)]
              refine JL_pick_f rfl rfl ?_
              refine JL_move rfl ?_
              refine JL_guard_yes rfl rfl ?_
              refine JL_move rfl ?_
              refine JL_guard_yes rfl rfl ?_
              refine JL_neq rfl rfl ?_
              rw [decide_eq_false (p := (0 : Int) ≠ 0) (by decide)]
              refine JL_pick_f rfl rfl ?_
              refine JL_move rfl ?_
              refine JL_guard_yes rfl rfl ?_
              refine JL_move rfl ?_
              refine JL_guard_yes rfl rfl ?_
              refine JL_neq rfl rfl ?_
              rw [decide_eq_false (p := (0 : Int) ≠ 0) (by decide)]
              refine JL_pick_f rfl rfl ?_
              refine JL_move rfl ?_
              refine JL_guard_yes rfl rfl ?_
              refine JL_move rfl ?_
              refine JL_guard_yes rfl rfl ?_
              refine JL_move rfl ?_
              refine JL_guard_yes rfl rfl ?_
              refine JL_callF' (Asks.cons (holds_of_mem (by repeat (first | with_reducible exact mm0 | refine mmS ?_))) (Asks.cons (holds_of_mem (by repeat (first | with_reducible exact mm0 | refine mmS ?_))) Asks.nil)) (within_con (l := bothR (ofR E R F S) (ofR F S G U) (cmpL (ofR E R F S) (ofR F S G U) (ofR E R F S).length)) (m := ofR E R G U) (by omega) (by omega)) rfl ca34 ⟨rfl, rfl, rfl⟩ ?_
              rintro _ _ ⟨rfl, rfl⟩
              rw [decide_eq_true (p := ∀ x ∈ bothR (ofR E R F S) (ofR F S G U) (cmpL (ofR E R F S) (ofR F S G U) (ofR E R F S).length), x ∈ ofR E R G U) (over_sub h42 h47 h52)]
              refine JL_guard_yes rfl rfl ?_
              refine JL_not rfl ?_
              rw [Bool.not_true]
              refine JL_pick_f rfl rfl ?_
              refine JL_done_up 138 [box _ _ [_, _], box _ _ [_, _], box _ _ [_, _]] [_, _, _, _, _, _, _, _, _, _] rfl rfl (by simp only [nrmF]; rfl) rfl rfl ?_
              refine JC_false rfl ?_
              refine JC_skip ?_
              refine JE_then ?_
              refine JC_seq ?_
              refine JC_seq ?_
              refine JC_region ?_
              refine JL_assign rfl ?_
              refine JL_done_up 138 [box _ _ [_, _], box _ _ [_, _], box _ _ [_, _]] [_, _, _, _, _, _, _, _, _, _] rfl rfl (by simp only [nrmF]; rfl) rfl rfl ?_
              refine JC_block ?_
              refine JC_loopS ((Nat)) (fun (i : Nat) => i ≤ E.length ∧ ∀ j, j < i → numE G U (E.getD j dP).1 = 0 → numE F S (E.getD j dP).1 = 0) (fun (i : Nat) => E.length - i) (fun u (i : Nat) => [none, none, none, none, none, none, some (u 6), none, none, none, none, none, none, none, none, some (.int .i64 (i : Nat)), some (u 16), some (u 17), some (u 18), some (u 19), none, none, none, none, none, none, none, none, none, none, none, none, none, none, none, none, none, none, none, none, none, none, none, none, none, none, none, none, none, none, none, none, none, none, none, none, none, none, none, none, none, none, none, none, none, none, none, none, none, none, none, none, none, none, none, none, none, none, none, none, none, none, none, none, none, none, none, none, none, none, none, none, none, none, none, none, none, none, none, none, some (u 100), some (u 101), some (u 102), some (u 103), some (u 104), some (u 105), some (u 106), some (u 107), some (u 108), some (u 109), some (u 110), some (u 111), some (u 112), some (u 113), some (u 114), some (u 115), some (u 116), some (u 117), some (u 118), some (u 119), some (u 120), some (u 121), some (u 122), some (u 123), some (u 124), some (u 125), some (u 126), some (u 127), some (u 128), some (u 129), some (u 130), some (u 131), some (u 132), some (u 133), some (u 134), none, none, none]) (fun (i : Nat) => [none, none, none]) (fun (i : Nat) => []) (0) (by kernel_rfl) ?_ (by kernel_rfl) ?_ ?_
              · exact ⟨Nat.zero_le _, fun j hj => absurd hj (Nat.not_lt_zero _)⟩
              · exact subset_nil
              intro u i hC
              obtain ⟨hi, hj⟩ := hC
              refine JC_norm ⟨138, [], [_, _, _, _, _, _, _, _, _, _, _, _, _, _, _, _, _, _, _, _, _, _, _, _, _, _, _, _, _, _, _, _, _, _, _, _, _, _, _, _, _, _, _, _, _, _, _, _, _, _, _, _, _, _, _, _, _, _, _, _, _, _, _, _, _, _, _, _, _, _, _, _, _, _, _, _, _, _, _, _, _, _, _, _, _, _, _, _, _, _, _, _, _, _, _, _, _, _, _, _, _, _, _, _, _, _, _, _, _, _, _, _, _, _, _, _, _, _, _, _, _, _, _, _, _, _, _, _, _, _, _, _, _, _, _, _, _, _]⟩ [box _ _ [_, _], box _ _ [_, _], box _ _ [_, _]] [_, _, _, _, _, _, _, _, _, _] rfl rfl rfl ?_
              refine JC_seq ?_
              refine JC_seq ?_
              refine JC_region ?_
              refine JL_move rfl ?_
              refine JL_fieldAddr fo41_0 rfl ?_
              refine JL_load 0 ty39 rfl rfl rfl ?_
              refine JL_len sl39 rfl ?_
              refine JL_lss rfl rfl ?_
              refine JL_split (fun h104 => ?_) (fun h104 => ?_)
              · refine JL_done_up 138 [box _ _ [_, _], box _ _ [_, _], box _ _ [_, _]] [_, _, _, _, _, _, _, _, _, _] rfl rfl (by simp only [nrmF]; rfl) rfl rfl ?_
                refine JC_true rfl ?_
                refine JC_skip ?_
                refine JE_then ?_
                refine JC_seq ?_
                refine JC_block ?_
                refine JC_seq ?_
                refine JC_drawT mixed 12 [spV 108 [] _, spV 109 [] _, spV 110 [1] _, spV 111 [] _, spV 112 [2, 3] _, spV 113 [4] _, spV 114 [5] _, spC 115 [0, 6] _, spC 107 [7] _, spC 116 [8] (fun v φo => v = .int .i64 (numV G U (E.getD i dP).1) ∧ φo = []), spC 117 [8] (fun v φo => v = .int .i64 (numE G U (E.getD i dP).1) ∧ φo = []), spC 16 [9] _] ⟨OblS_V (fun vals ex ψ => (by
                    refine JL_normQ ⟨138, [(108, _), (109, _), (110, _), (111, _), (112, _), (113, _), (114, _), (115, _), (107, _), (116, _), (117, _), (16, _)], _⟩ (_ :: _ :: _ :: _ :: _ :: _ :: _ :: _ :: _ :: _ :: ψ) rfl rfl ?_
                    refine JL_loadA (vs := [_, _]) 2 ty41 rfl rfl ⟨rfl, rfl, trivial⟩ ?_
                    exact JL_nil (JE_stepV rfl ss0))), OblS_V (fun vals ex ψ => (by
                    refine JL_normQ ⟨138, [(108, _), (109, _), (110, _), (111, _), (112, _), (113, _), (114, _), (115, _), (107, _), (116, _), (117, _), (16, _)], _⟩ (_ :: _ :: _ :: _ :: _ :: _ :: _ :: _ :: _ :: _ :: ψ) rfl rfl ?_
                    refine JL_fieldAddr fo41_0 rfl ?_
                    exact JL_nil (JE_stepV rfl ss0))), OblS_V (fun vals ex ψ => (by
                    refine JL_normQ ⟨138, [(108, _), (109, _), (110, _), (111, _), (112, _), (113, _), (114, _), (115, _), (107, _), (116, _), (117, _), (16, _)], _⟩ (_ :: _ :: _ :: _ :: _ :: _ :: _ :: _ :: _ :: _ :: ψ) rfl rfl ?_
                    refine JL_load 0 ty39 rfl rfl rfl ?_
                    exact JL_nil (JE_stepV rfl ss0))), OblS_V (fun vals ex ψ => (by
                    refine JL_normQ ⟨138, [(108, _), (109, _), (110, _), (111, _), (112, _), (113, _), (114, _), (115, _), (107, _), (116, _), (117, _), (16, _)], _⟩ (_ :: _ :: _ :: _ :: _ :: _ :: _ :: _ :: _ :: _ :: ψ) rfl rfl ?_
                    refine JL_move rfl ?_
                    exact JL_nil (JE_stepV rfl ss0))), OblS_V (fun vals ex ψ => (by
                    refine JL_normQ ⟨138, [(108, _), (109, _), (110, _), (111, _), (112, _), (113, _), (114, _), (115, _), (107, _), (116, _), (117, _), (16, _)], _⟩ (_ :: _ :: _ :: _ :: _ :: _ :: _ :: _ :: _ :: _ :: ψ) rfl rfl ?_
                    refine JL_indexAddr i sl39 rfl rfl rfl (by omega) (by first | exact Reads.view (by repeat (first | with_reducible exact mm0 | refine mmS ?_))) (by rw [pcells_length]; omega) ?_
                    exact JL_nil (JE_stepV rfl ss0))), OblS_V (fun vals ex ψ => (by
                    refine JL_normQ ⟨138, [(108, _), (109, _), (110, _), (111, _), (112, _), (113, _), (114, _), (115, _), (107, _), (116, _), (117, _), (16, _)], _⟩ (_ :: _ :: _ :: _ :: _ :: _ :: _ :: _ :: _ :: _ :: ψ) rfl rfl ?_
                    refine JL_fieldAddrE fo48_0 rfl (by first | exact Reads.view (by repeat (first | with_reducible exact mm0 | refine mmS ?_))) (by rw [pcells_length]; omega) ?_
                    exact JL_nil (JE_stepV rfl ss0))), OblS_V (fun vals ex ψ => (by
                    refine JL_normQ ⟨138, [(108, _), (109, _), (110, _), (111, _), (112, _), (113, _), (114, _), (115, _), (107, _), (116, _), (117, _), (16, _)], _⟩ (_ :: _ :: _ :: _ :: _ :: _ :: _ :: _ :: _ :: _ :: ψ) rfl rfl ?_
                    refine JL_loadE ty3 rfl (by first | exact Reads.view (by repeat (first | with_reducible exact mm0 | refine mmS ?_))) (pcells_one (l := E) (by omega)).1 ?_
                    exact JL_nil (JE_stepV rfl ss0))), OblS_C (fun vals ex ψ => (by
                    refine JL_normQ ⟨138, [(108, _), (109, _), (110, _), (111, _), (112, _), (113, _), (114, _), (115, _), (107, _), (116, _), (117, _), (16, _)], _⟩ (_ :: _ :: _ :: _ :: _ :: _ :: _ :: _ :: _ :: _ :: ψ) rfl rfl ?_
                    refine JL_callF' (Asks.cons (holds_of_mem (by repeat (first | with_reducible exact mm0 | refine mmS ?_))) (Asks.cons (holds_of_mem (by repeat (first | with_reducible exact mm0 | refine mmS ?_))) Asks.nil)) (rnumber_con (E := G) (R := U) (k := (E.getD i dP).1) (by omega)) rfl ca35 ⟨rfl, rfl, rfl⟩ ?_
                    exact fun v φo hP => JL_nil (JE_stepC φo rfl hP (fun p hp => mapB_l hp) (fun p hp => mapB_r (ss0 p hp))))), OblS_C (fun vals ex ψ => (by
                    refine JL_normQ ⟨138, [(108, _), (109, _), (110, _), (111, _), (112, _), (113, _), (114, _), (115, _), (107, _), (116, _), (117, _), (16, _)], _⟩ (_ :: _ :: _ :: _ :: _ :: _ :: _ :: _ :: _ :: _ :: _ :: ψ) rfl rfl ?_
                    generalize vals 7 = x115
                    refine JL_usePost mm0 (fun φo hP => ?_)
                    refine JL_move rfl ?_
                    exact JL_nil (JE_stepC φo rfl hP (fun p hp => List.mem_append_left _ (List.mem_map.2 ⟨p, hp, rfl⟩)) (fun p hp => List.mem_append_right _ hp)))), OblS_C (fun vals ex ψ => (by
                    refine JL_normQ ⟨138, [(108, _), (109, _), (110, _), (111, _), (112, _), (113, _), (114, _), (115, _), (107, _), (116, _), (117, _), (16, _)], _⟩ (_ :: _ :: _ :: _ :: _ :: _ :: _ :: _ :: _ :: _ :: _ :: ψ) rfl rfl ?_
                    generalize vals 8 = x107
                    refine JL_usePost mm0 (fun φo hP => ?_)
                    obtain ⟨rfl, rfl⟩ := hP
                    refine JL_norm _ _ (_ :: _ :: _ :: _ :: _ :: _ :: _ :: _ :: _ :: _ :: _ :: ψ) rfl rfl rfl ?_
                    refine JL_extract rfl rfl ?_
                    exact JL_nil (JE_stepC [] rfl ⟨rfl, rfl⟩ all_nil ss0))), OblS_C (fun vals ex ψ => (by
                    refine JL_normQ ⟨138, [(108, _), (109, _), (110, _), (111, _), (112, _), (113, _), (114, _), (115, _), (107, _), (116, _), (117, _), (16, _)], _⟩ (_ :: _ :: _ :: _ :: _ :: _ :: _ :: _ :: _ :: _ :: _ :: ψ) rfl rfl ?_
                    generalize vals 8 = x107
                    refine JL_usePost mm0 (fun φo hP => ?_)
                    obtain ⟨rfl, rfl⟩ := hP
                    refine JL_norm _ _ (_ :: _ :: _ :: _ :: _ :: _ :: _ :: _ :: _ :: _ :: _ :: ψ) rfl rfl rfl ?_
                    refine JL_extract rfl rfl ?_
                    exact JL_nil (JE_stepC [] rfl ⟨rfl, rfl⟩ all_nil ss0))), OblS_C (fun vals ex ψ => (by
                    refine JL_normQ ⟨138, [(108, _), (109, _), (110, _), (111, _), (112, _), (113, _), (114, _), (115, _), (107, _), (116, _), (117, _), (16, _)], _⟩ (_ :: _ :: _ :: _ :: _ :: _ :: _ :: _ :: _ :: _ :: _ :: ψ) rfl rfl ?_
                    generalize vals 9 = x116
                    refine JL_usePost mm0 (fun φo hP => ?_)
                    refine JL_assign rfl ?_
                    exact JL_nil (JE_stepC φo rfl hP (fun p hp => List.mem_append_left _ (List.mem_map.2 ⟨p, hp, rfl⟩)) (fun p hp => List.mem_append_right _ hp)))), trivial⟩ (by kernel_rfl) (fun vals bs => ?_)
                refine JL_normL [_] ⟨138, [(108, _), (109, _), (110, _), (111, _), (112, _), (113, _), (114, _), (115, _), (107, _), (116, _), (117, _), (16, _)], _⟩ [box _ _ [_, _], box _ _ [_, _], box _ _ [_, _]] [_, _, _, _, _, _, _, _, _, _, _, _, _, _, _] rfl rfl rfl rfl ?_
                generalize vals (0 + 1 + 1 + 1 + 1 + 1 + 1 + 1) = x115
                generalize vals (0 + 1 + 1 + 1 + 1 + 1 + 1 + 1 + 1) = x107
                generalize vals (0 + 1 + 1 + 1 + 1 + 1 + 1 + 1 + 1 + 1) = x116
                generalize vals (0 + 1 + 1 + 1 + 1 + 1 + 1 + 1 + 1 + 1 + 1) = x117
                generalize vals (0 + 1 + 1 + 1 + 1 + 1 + 1 + 1 + 1 + 1 + 1 + 1) = x16
                refine JL_usePost (mmS (mmS (mmS mm0))) (fun φo hP => ?_)
                obtain ⟨rfl, rfl⟩ := hP
                refine JL_norm _ [box _ _ [_, _], box _ _ [_, _], box _ _ [_, _]] [_, _, _, _, _, _, _, _, _, _, _, _, _, _, _] rfl rfl rfl ?_
                refine JL_assign rfl ?_
                refine JL_done_up 138 [box _ _ [_, _], box _ _ [_, _], box _ _ [_, _]] [_, _, _, _, _, _, _, _, _, _, _, _, _, _, _] rfl rfl (by simp only [nrmF]; rfl) rfl rfl ?_
                refine JC_seq ?_
                refine JC_drawT mixed 12 [spV 119 [] _, spV 120 [] _, spV 121 [1] _, spV 122 [] _, spV 123 [2, 3] _, spV 124 [4] _, spV 125 [5] _, spC 126 [0, 6] _, spC 118 [7] _, spC 127 [8] (fun v φo => v = .int .i64 (numV F S (E.getD i dP).1) ∧ φo = []), spC 128 [8] (fun v φo => v = .int .i64 (numE F S (E.getD i dP).1) ∧ φo = []), spC 18 [9] _] ⟨OblS_V (fun vals ex ψ => (by
                    refine JL_normQ ⟨138, [(119, _), (120, _), (121, _), (122, _), (123, _), (124, _), (125, _), (126, _), (118, _), (127, _), (128, _), (18, _)], _⟩ (_ :: _ :: _ :: _ :: _ :: _ :: _ :: _ :: _ :: _ :: _ :: _ :: _ :: _ :: _ :: ψ) rfl rfl ?_
                    refine JL_loadA (vs := [_, _]) 1 ty41 rfl rfl ⟨rfl, rfl, trivial⟩ ?_
                    exact JL_nil (JE_stepV rfl ss0))), OblS_V (fun vals ex ψ => (by
                    refine JL_normQ ⟨138, [(119, _), (120, _), (121, _), (122, _), (123, _), (124, _), (125, _), (126, _), (118, _), (127, _), (128, _), (18, _)], _⟩ (_ :: _ :: _ :: _ :: _ :: _ :: _ :: _ :: _ :: _ :: _ :: _ :: _ :: _ :: _ :: ψ) rfl rfl ?_
                    refine JL_fieldAddr fo41_0 rfl ?_
                    exact JL_nil (JE_stepV rfl ss0))), OblS_V (fun vals ex ψ => (by
                    refine JL_normQ ⟨138, [(119, _), (120, _), (121, _), (122, _), (123, _), (124, _), (125, _), (126, _), (118, _), (127, _), (128, _), (18, _)], _⟩ (_ :: _ :: _ :: _ :: _ :: _ :: _ :: _ :: _ :: _ :: _ :: _ :: _ :: _ :: _ :: ψ) rfl rfl ?_
                    refine JL_load 0 ty39 rfl rfl rfl ?_
                    exact JL_nil (JE_stepV rfl ss0))), OblS_V (fun vals ex ψ => (by
                    refine JL_normQ ⟨138, [(119, _), (120, _), (121, _), (122, _), (123, _), (124, _), (125, _), (126, _), (118, _), (127, _), (128, _), (18, _)], _⟩ (_ :: _ :: _ :: _ :: _ :: _ :: _ :: _ :: _ :: _ :: _ :: _ :: _ :: _ :: _ :: ψ) rfl rfl ?_
                    refine JL_move rfl ?_
                    exact JL_nil (JE_stepV rfl ss0))), OblS_V (fun vals ex ψ => (by
                    refine JL_normQ ⟨138, [(119, _), (120, _), (121, _), (122, _), (123, _), (124, _), (125, _), (126, _), (118, _), (127, _), (128, _), (18, _)], _⟩ (_ :: _ :: _ :: _ :: _ :: _ :: _ :: _ :: _ :: _ :: _ :: _ :: _ :: _ :: _ :: ψ) rfl rfl ?_
                    refine JL_indexAddr i sl39 rfl rfl rfl (by omega) (by first | exact Reads.view (by repeat (first | with_reducible exact mm0 | refine mmS ?_))) (by rw [pcells_length]; omega) ?_
                    exact JL_nil (JE_stepV rfl ss0))), OblS_V (fun vals ex ψ => (by
                    refine JL_normQ ⟨138, [(119, _), (120, _), (121, _), (122, _), (123, _), (124, _), (125, _), (126, _), (118, _), (127, _), (128, _), (18, _)], _⟩ (_ :: _ :: _ :: _ :: _ :: _ :: _ :: _ :: _ :: _ :: _ :: _ :: _ :: _ :: _ :: ψ) rfl rfl ?_
                    refine JL_fieldAddrE fo48_0 rfl (by first | exact Reads.view (by repeat (first | with_reducible exact mm0 | refine mmS ?_))) (by rw [pcells_length]; omega) ?_
                    exact JL_nil (JE_stepV rfl ss0))), OblS_V (fun vals ex ψ => (by
                    refine JL_normQ ⟨138, [(119, _), (120, _), (121, _), (122, _), (123, _), (124, _), (125, _), (126, _), (118, _), (127, _), (128, _), (18, _)], _⟩ (_ :: _ :: _ :: _ :: _ :: _ :: _ :: _ :: _ :: _ :: _ :: _ :: _ :: _ :: _ :: ψ) rfl rfl ?_
                    refine JL_loadE ty3 rfl (by first | exact Reads.view (by repeat (first | with_reducible exact mm0 | refine mmS ?_))) (pcells_one (l := E) (by omega)).1 ?_
                    exact JL_nil (JE_stepV rfl ss0))), OblS_C (fun vals ex ψ => (by
                    refine JL_normQ ⟨138, [(119, _), (120, _), (121, _), (122, _), (123, _), (124, _), (125, _), (126, _), (118, _), (127, _), (128, _), (18, _)], _⟩ (_ :: _ :: _ :: _ :: _ :: _ :: _ :: _ :: _ :: _ :: _ :: _ :: _ :: _ :: _ :: ψ) rfl rfl ?_
                    refine JL_callF' (Asks.cons (holds_of_mem (by repeat (first | with_reducible exact mm0 | refine mmS ?_))) (Asks.cons (holds_of_mem (by repeat (first | with_reducible exact mm0 | refine mmS ?_))) Asks.nil)) (rnumber_con (E := F) (R := S) (k := (E.getD i dP).1) (by omega)) rfl ca35 ⟨rfl, rfl, rfl⟩ ?_
                    exact fun v φo hP => JL_nil (JE_stepC φo rfl hP (fun p hp => mapB_l hp) (fun p hp => mapB_r (ss0 p hp))))), OblS_C (fun vals ex ψ => (by
                    refine JL_normQ ⟨138, [(119, _), (120, _), (121, _), (122, _), (123, _), (124, _), (125, _), (126, _), (118, _), (127, _), (128, _), (18, _)], _⟩ (_ :: _ :: _ :: _ :: _ :: _ :: _ :: _ :: _ :: _ :: _ :: _ :: _ :: _ :: _ :: _ :: ψ) rfl rfl ?_
                    generalize vals 7 = x126
                    refine JL_usePost mm0 (fun φo hP => ?_)
                    refine JL_move rfl ?_
                    exact JL_nil (JE_stepC φo rfl hP (fun p hp => List.mem_append_left _ (List.mem_map.2 ⟨p, hp, rfl⟩)) (fun p hp => List.mem_append_right _ hp)))), OblS_C (fun vals ex ψ => (by
                    refine JL_normQ ⟨138, [(119, _), (120, _), (121, _), (122, _), (123, _), (124, _), (125, _), (126, _), (118, _), (127, _), (128, _), (18, _)], _⟩ (_ :: _ :: _ :: _ :: _ :: _ :: _ :: _ :: _ :: _ :: _ :: _ :: _ :: _ :: _ :: _ :: ψ) rfl rfl ?_
                    generalize vals 8 = x118
                    refine JL_usePost mm0 (fun φo hP => ?_)
                    obtain ⟨rfl, rfl⟩ := hP
                    refine JL_norm _ _ (_ :: _ :: _ :: _ :: _ :: _ :: _ :: _ :: _ :: _ :: _ :: _ :: _ :: _ :: _ :: _ :: ψ) rfl rfl rfl ?_
                    refine JL_extract rfl rfl ?_
                    exact JL_nil (JE_stepC [] rfl ⟨rfl, rfl⟩ all_nil ss0))), OblS_C (fun vals ex ψ => (by
                    refine JL_normQ ⟨138, [(119, _), (120, _), (121, _), (122, _), (123, _), (124, _), (125, _), (126, _), (118, _), (127, _), (128, _), (18, _)], _⟩ (_ :: _ :: _ :: _ :: _ :: _ :: _ :: _ :: _ :: _ :: _ :: _ :: _ :: _ :: _ :: _ :: ψ) rfl rfl ?_
                    generalize vals 8 = x118
                    refine JL_usePost mm0 (fun φo hP => ?_)
                    obtain ⟨rfl, rfl⟩ := hP
                    refine JL_norm _ _ (_ :: _ :: _ :: _ :: _ :: _ :: _ :: _ :: _ :: _ :: _ :: _ :: _ :: _ :: _ :: _ :: ψ) rfl rfl rfl ?_
                    refine JL_extract rfl rfl ?_
                    exact JL_nil (JE_stepC [] rfl ⟨rfl, rfl⟩ all_nil ss0))), OblS_C (fun vals ex ψ => (by
                    refine JL_normQ ⟨138, [(119, _), (120, _), (121, _), (122, _), (123, _), (124, _), (125, _), (126, _), (118, _), (127, _), (128, _), (18, _)], _⟩ (_ :: _ :: _ :: _ :: _ :: _ :: _ :: _ :: _ :: _ :: _ :: _ :: _ :: _ :: _ :: _ :: ψ) rfl rfl ?_
                    generalize vals 9 = x127
                    refine JL_usePost mm0 (fun φo hP => ?_)
                    refine JL_assign rfl ?_
                    exact JL_nil (JE_stepC φo rfl hP (fun p hp => List.mem_append_left _ (List.mem_map.2 ⟨p, hp, rfl⟩)) (fun p hp => List.mem_append_right _ hp)))), trivial⟩ (by kernel_rfl) (fun vals bs => ?_)
                refine JL_normL [_] ⟨138, [(119, _), (120, _), (121, _), (122, _), (123, _), (124, _), (125, _), (126, _), (118, _), (127, _), (128, _), (18, _)], _⟩ [box _ _ [_, _], box _ _ [_, _], box _ _ [_, _]] [_, _, _, _, _, _, _, _, _, _, _, _, _, _, _, _, _, _, _, _] rfl rfl rfl rfl ?_
                generalize vals (0 + 1 + 1 + 1 + 1 + 1 + 1 + 1) = x126
                generalize vals (0 + 1 + 1 + 1 + 1 + 1 + 1 + 1 + 1) = x118
                generalize vals (0 + 1 + 1 + 1 + 1 + 1 + 1 + 1 + 1 + 1) = x127
                generalize vals (0 + 1 + 1 + 1 + 1 + 1 + 1 + 1 + 1 + 1 + 1) = x128
                generalize vals (0 + 1 + 1 + 1 + 1 + 1 + 1 + 1 + 1 + 1 + 1 + 1) = x18
                refine JL_usePost (mmS (mmS (mmS mm0))) (fun φo hP => ?_)
                obtain ⟨rfl, rfl⟩ := hP
                refine JL_norm _ [box _ _ [_, _], box _ _ [_, _], box _ _ [_, _]] [_, _, _, _, _, _, _, _, _, _, _, _, _, _, _, _, _, _, _, _] rfl rfl rfl ?_
                refine JL_assign rfl ?_
                refine JL_done_up 138 [box _ _ [_, _], box _ _ [_, _], box _ _ [_, _]] [_, _, _, _, _, _, _, _, _, _, _, _, _, _, _, _, _, _, _, _] rfl rfl (by simp only [nrmF]; rfl) rfl rfl ?_
                refine JC_seq ?_
                refine JC_region ?_
                refine JL_move rfl ?_
                refine JL_eql rfl rfl ?_
                refine JL_split (fun h130 => ?_) (fun h130 => ?_)
                · refine JL_move rfl ?_
                  refine JL_guard_yes rfl rfl ?_
                  refine JL_move rfl ?_
                  refine JL_guard_yes rfl rfl ?_
                  refine JL_neq rfl rfl ?_
                  refine JL_split (fun h133 => ?_) (fun h133 => ?_)
                  · refine JL_pick_t rfl rfl ?_
                    refine JL_done_up 138 [box _ _ [_, _], box _ _ [_, _], box _ _ [_, _]] [_, _, _, _, _, _, _, _, _, _, _, _, _, _, _, _, _, _, _, _] rfl rfl (by simp only [nrmF]; rfl) rfl rfl ?_
                    refine JC_true rfl ?_
                    refine JC_seq ?_
                    refine JC_region ?_
                    refine JL_assign rfl ?_
                    refine JL_done_up 138 [box _ _ [_, _], box _ _ [_, _], box _ _ [_, _]] [_, _, _, _, _, _, _, _, _, _, _, _, _, _, _, _, _, _, _, _] rfl rfl (by simp only [nrmF]; rfl) rfl rfl ?_
                    refine JC_ret ?_
                    refine JE_block_ret ?_
                    refine JE_then_ret ?_
                    refine JE_nextS_ret ?_
                    refine JE_block_ret ?_
                    refine JE_then_ret ?_
                    refine JE_ret (vs := [_]) [] Try.results9 ⟨rfl, rfl⟩ ?_ ?_
                    · exact ⟨rfl, rfl⟩
                    · exact all_nil
                  · refine JL_pick_t rfl rfl ?_
                    refine JL_done_up 138 [box _ _ [_, _], box _ _ [_, _], box _ _ [_, _]] [_, _, _, _, _, _, _, _, _, _, _, _, _, _, _, _, _, _, _, _] rfl rfl (by simp only [nrmF]; rfl) rfl rfl ?_
                    refine JC_false rfl ?_
                    refine JC_skip ?_
                    refine JE_block_normal ?_
                    refine JE_then ?_
                    refine JC_region ?_
                    refine JL_move rfl ?_
                    refine JL_add_to rfl rfl (IntWalk.i64_in _ (by omega)) ?_
                    refine JL_assign rfl ?_
                    refine JL_nil_up 138 [box _ _ [_, _], box _ _ [_, _], box _ _ [_, _]] [_, _, _, _, _, _, _, _, _, _, _, _, _, _, _, _, _, _, _, _] rfl rfl (by simp only [nrmF]; rfl) rfl rfl ?_
                    refine JE_nextS (i + 1) (by kernel_rfl) ?_ ?_ (by kernel_rfl) ?_
                    · exact ⟨by omega, fun j hj2 h => by
                      by_cases e : j = i
                      · subst e; exact Classical.byContradiction h133
                      · exact hj j (by omega) h⟩
                    · first | omega | (dsimp only; omega)
                    · exact subset_app subset_nil (ssS (ssS (ssS (ssS (ssS (ssS (ssS (ssS (ssS (ssS ss0))))))))))
                · refine JL_move rfl ?_
                  refine JL_guard_no rfl rfl ?_
                  refine JL_guard_no rfl rfl ?_
                  refine JL_pick_f rfl rfl ?_
                  refine JL_done_up 138 [box _ _ [_, _], box _ _ [_, _], box _ _ [_, _]] [_, _, _, _, _, _, _, _, _, _, _, _, _, _, _, _, _, _, _, _] rfl rfl (by simp only [nrmF]; rfl) rfl rfl ?_
                  refine JC_false rfl ?_
                  refine JC_skip ?_
                  refine JE_block_normal ?_
                  refine JE_then ?_
                  refine JC_region ?_
                  refine JL_move rfl ?_
                  refine JL_add_to rfl rfl (IntWalk.i64_in _ (by omega)) ?_
                  refine JL_assign rfl ?_
                  refine JL_nil_up 138 [box _ _ [_, _], box _ _ [_, _], box _ _ [_, _]] [_, _, _, _, _, _, _, _, _, _, _, _, _, _, _, _, _, _, _, _] rfl rfl (by simp only [nrmF]; rfl) rfl rfl ?_
                  refine JE_nextS (i + 1) (by kernel_rfl) ?_ ?_ (by kernel_rfl) ?_
                  · exact ⟨by omega, fun j hj2 h => by
                    by_cases e : j = i
                    · subst e; exact absurd h h130
                    · exact hj j (by omega) h⟩
                  · first | omega | (dsimp only; omega)
                  · exact subset_app subset_nil (ssS (ssS (ssS (ssS (ssS (ssS (ssS (ssS (ssS (ssS ss0))))))))))
              · refine JL_done_up 138 [box _ _ [_, _], box _ _ [_, _], box _ _ [_, _]] [_, _, _, _, _, _, _, _, _, _] rfl rfl (by simp only [nrmF]; rfl) rfl rfl ?_
                refine JC_false rfl ?_
                refine JC_exit ?_
                refine JE_then_exit ?_
                refine JE_nextS_exit ?_
                refine JE_block_exit ?_
                refine JE_then ?_
                refine JC_seq ?_
                have hov : bothR (ofR E R F S) (ofR F S G U) (cmpL (ofR E R F S) (ofR F S G U) (ofR E R F S).length) = ofR E R G U := over_all h42 h47 h52 (fun j hj2 h => (numE_zero h47).1 (hj j (by omega) ((numE_zero h52).2 h)))
                rw [hov]
                refine JC_region ?_
                refine JL_move rfl ?_
                refine JL_move rfl ?_
                refine JL_callF' (Asks.cons (holds_of_mem (by repeat (first | with_reducible exact mm0 | refine mmS ?_))) (Asks.cons (holds_of_mem (by repeat (first | with_reducible exact mm0 | refine mmS ?_))) Asks.nil)) (bpairs_con (l := ofR E R G U) (by omega)) rfl ca20 ⟨rfl, rfl, rfl⟩ ?_
                rintro _ _ ⟨rfl, rfl⟩
                refine JL_assign rfl ?_
                refine JL_done_up 138 [box _ _ [_, _], box _ _ [_, _], box _ _ [_, _]] [_, _, _, _, _, _, _, _, _, _] rfl rfl (by simp only [nrmF]; rfl) rfl rfl ?_
                refine JC_ret ?_
                refine JE_ret (vs := [_]) [] Try.results9 ⟨rfl, rfl⟩ ?_ ?_
                · exact ⟨rfl, rfl⟩
                · exact all_nil
            · refine JL_guard_yes rfl rfl ?_
              refine JL_not rfl ?_
              rw [Bool.not_false]
              refine JL_pick_f rfl rfl ?_
              refine JL_done_up 138 [box _ _ [_, _], box _ _ [_, _], box _ _ [_, _]] [_, _, _, _, _, _] rfl rfl (by simp only [nrmF]; rfl) rfl rfl ?_
              refine JC_true rfl ?_
              refine JC_seq ?_
              refine JC_region ?_
              refine JL_callF' Asks.nil (awake48_con) rfl ca10 rfl ?_
              rintro _ _ ⟨rfl, rfl⟩
              refine JL_assign rfl ?_
              refine JL_done_up 138 [box _ _ [_, _], box _ _ [_, _], box _ _ [_, _]] [_, _, _, _, _, _] rfl rfl (by simp only [nrmF]; rfl) rfl rfl ?_
              refine JC_ret ?_
              refine JE_then_ret ?_
              refine JE_ret (vs := [_]) [] Try.results9 ⟨rfl, rfl⟩ ?_ ?_
              · exact ⟨rfl, rfl⟩
              · exact all_nil
          · refine JL_guard_yes rfl rfl ?_
            refine JL_not rfl ?_
            rw [Bool.not_false]
            refine JL_pick_f rfl rfl ?_
            refine JL_move rfl ?_
            refine JL_guard_no rfl rfl ?_
            refine JL_guard_no rfl rfl ?_
            refine JL_guard_no rfl rfl ?_
            refine JL_pick_t rfl rfl ?_
            refine JL_done_up 138 [box _ _ [_, _], box _ _ [_, _], box _ _ [_, _]] [_, _, _, _, _, _] rfl rfl (by simp only [nrmF]; rfl) rfl rfl ?_
            refine JC_true rfl ?_
            refine JC_seq ?_
            refine JC_region ?_
            refine JL_callF' Asks.nil (awake48_con) rfl ca10 rfl ?_
            rintro _ _ ⟨rfl, rfl⟩
            refine JL_assign rfl ?_
            refine JL_done_up 138 [box _ _ [_, _], box _ _ [_, _], box _ _ [_, _]] [_, _, _, _, _, _] rfl rfl (by simp only [nrmF]; rfl) rfl rfl ?_
            refine JC_ret ?_
            refine JE_then_ret ?_
            refine JE_ret (vs := [_]) [] Try.results9 ⟨rfl, rfl⟩ ?_ ?_
            · exact ⟨rfl, rfl⟩
            · exact all_nil
        · refine JL_guard_yes rfl rfl ?_
          refine JL_not rfl ?_
          rw [Bool.not_false]
          refine JL_pick_f rfl rfl ?_
          refine JL_move rfl ?_
          refine JL_guard_no rfl rfl ?_
          refine JL_guard_no rfl rfl ?_
          refine JL_guard_no rfl rfl ?_
          refine JL_pick_t rfl rfl ?_
          refine JL_move rfl ?_
          refine JL_guard_no rfl rfl ?_
          refine JL_guard_no rfl rfl ?_
          refine JL_guard_no rfl rfl ?_
          refine JL_pick_t rfl rfl ?_
          refine JL_done_up 138 [box _ _ [_, _], box _ _ [_, _], box _ _ [_, _]] [_, _, _, _, _, _] rfl rfl (by simp only [nrmF]; rfl) rfl rfl ?_
          refine JC_true rfl ?_
          refine JC_seq ?_
          refine JC_region ?_
          refine JL_callF' Asks.nil (awake48_con) rfl ca10 rfl ?_
          rintro _ _ ⟨rfl, rfl⟩
          refine JL_assign rfl ?_
          refine JL_done_up 138 [box _ _ [_, _], box _ _ [_, _], box _ _ [_, _]] [_, _, _, _, _, _] rfl rfl (by simp only [nrmF]; rfl) rfl rfl ?_
          refine JC_ret ?_
          refine JE_then_ret ?_
          refine JE_ret (vs := [_]) [] Try.results9 ⟨rfl, rfl⟩ ?_ ?_
          · exact ⟨rfl, rfl⟩
          · exact all_nil

end Go.Fw.K
