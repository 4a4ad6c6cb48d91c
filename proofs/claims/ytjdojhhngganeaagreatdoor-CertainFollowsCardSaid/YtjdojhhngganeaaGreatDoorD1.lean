/- Walks through functions of the given program: each meets its contract. (Printed by a program of this repo.) -/
import Derived.Test.YtjdojhhngganeaaGreatDoorDgB
import Derived.Test.YtjdojhhngganeaaGreatDoorFwT
import Derived.Test.YtjdojhhngganeaaGreatDoorFwV
import Derived.Test.YtjdojhhngganeaaGreatDoorProg
namespace Go.Fw.D1
open Go Go.RowKit Go.Proofs Go.Nat9 Go.Fw
attribute [local irreducible] JC JL JE
theorem ca69 : callable Tryz.prog 69 = true := by kernel_rfl
theorem ca80 : callable Tryz.prog 80 = true := by kernel_rfl
theorem ca82 : callable Tryz.prog 82 = true := by kernel_rfl
theorem fo53_0 : fOf Tryz.prog 53 0 = some 0 := by kernel_rfl
theorem fo53_1 : fOf Tryz.prog 53 1 = some 1 := by kernel_rfl
theorem mixed : Tryz.prog.follows .mixedOrders = true := by kernel_rfl
theorem sl22 : slOf Tryz.prog 22 = some (53, 2, 16, [.int .i64 0, .int .i64 0]) := by kernel_rfl
theorem sl82 : slOf Tryz.prog 82 = some (95, 1, 4, [.int .u32 0]) := by kernel_rfl
theorem st53 : stOf Tryz.prog 53 = some ([(0, 1), (1, 1)], [.int .i64 0, .int .i64 0]) := by kernel_rfl
theorem ty3 : tyOf Tryz.prog 3 = some (false, 1) := by kernel_rfl
theorem ty53 : tyOf Tryz.prog 53 = some (true, 2) := by kernel_rfl
theorem ty95 : tyOf Tryz.prog 95 = some (false, 1) := by kernel_rfl
theorem z53 : zeroOf Tryz.prog 53 = some [.int .i64 0, .int .i64 0] := by kernel_rfl
end Go.Fw.D1
namespace Go.Fw.K
open Go Go.RowKit Go.Proofs Go.Nat9 Go.Fw Go.Fw.D1
attribute [local irreducible] JC JL JE

set_option maxHeartbeats 2000000 in
theorem pval_con {ad : Option Addr} {c : Nat} {l : List Pr} {n : Int} (hln : l.length ≤ 1000000) :
    ConF Tryz.prog 55 [.int .i64 n, .slice ad l.length c] [vCells ad (pcells l)]
      (fun v φo => v = .bool (decide (dgC n l)) ∧ φo = []) := by
  refine ConF_of Tryz.func55 rfl 83 _ rfl rfl ?_
  intro w0
  refine JC_norm ⟨83, [], [_, _, _, _, _, _, _, _, _, _, _, _, _, _, _, _, _, _, _, _, _, _, _, _, _, _, _, _, _, _, _, _, _, _, _, _, _, _, _, _, _, _, _, _, _, _, _, _, _, _, _, _, _, _, _, _, _, _, _, _, _, _, _, _, _, _, _, _, _, _, _, _, _, _, _, _, _, _, _, _, _, _, _]⟩ [] [_] rfl rfl rfl ?_
  refine JC_seq ?_
  refine JC_region ?_
  refine JL_assign rfl ?_
  refine JL_done_up 83 [] [_] rfl rfl (by simp only [nrmF]; rfl) rfl rfl ?_
  refine JC_seq ?_
  refine JC_seq ?_
  refine JC_region ?_
  refine JL_move rfl ?_
  refine JL_lss rfl rfl ?_
  refine JL_split (fun h8 => ?_) (fun h8 => ?_)
  · refine JL_move rfl ?_
    refine JL_guard_no rfl rfl ?_
    refine JL_guard_no rfl rfl ?_
    refine JL_pick_t rfl rfl ?_
    refine JL_done_up 83 [] [_] rfl rfl (by simp only [nrmF]; rfl) rfl rfl ?_
    refine JC_true rfl ?_
    refine JC_seq ?_
    refine JC_region ?_
    refine JL_assign rfl ?_
    refine JL_done_up 83 [] [_] rfl rfl (by simp only [nrmF]; rfl) rfl rfl ?_
    refine JC_ret ?_
    refine JE_then_ret ?_
    refine JE_ret (vs := [_]) [] Tryz.results55 ⟨rfl, rfl⟩ ?_ ?_
    · rw [dgC_out (by omega)]; exact ⟨rfl, rfl⟩
    · exact all_nil
  · refine JL_move rfl ?_
    refine JL_guard_yes rfl rfl ?_
    refine JL_move rfl ?_
    refine JL_guard_yes rfl rfl ?_
    refine JL_gtr rfl rfl ?_
    refine JL_split (fun h11 => ?_) (fun h11 => ?_)
    · refine JL_pick_f rfl rfl ?_
      refine JL_done_up 83 [] [_] rfl rfl (by simp only [nrmF]; rfl) rfl rfl ?_
      refine JC_true rfl ?_
      refine JC_seq ?_
      refine JC_region ?_
      refine JL_assign rfl ?_
      refine JL_done_up 83 [] [_] rfl rfl (by simp only [nrmF]; rfl) rfl rfl ?_
      refine JC_ret ?_
      refine JE_then_ret ?_
      refine JE_ret (vs := [_]) [] Tryz.results55 ⟨rfl, rfl⟩ ?_ ?_
      · rw [dgC_out (by omega)]; exact ⟨rfl, rfl⟩
      · exact all_nil
    · refine JL_pick_f rfl rfl ?_
      refine JL_done_up 83 [] [_] rfl rfl (by simp only [nrmF]; rfl) rfl rfl ?_
      refine JC_false rfl ?_
      refine JC_skip ?_
      refine JE_then ?_
      refine JC_seq ?_
      refine JC_seq ?_
      refine JC_region ?_
      refine JL_move rfl ?_
      refine JL_len sl22 rfl ?_
      refine JL_move rfl ?_
      refine JL_done_up 83 [] [_] rfl rfl (by simp only [nrmF]; rfl) rfl rfl ?_
      refine JC_block ?_
      refine JC_loopS ((Nat)) (fun (i : Nat) => i ≤ l.length ∧ ∀ j, j < i → arcAt n l j) (fun (i : Nat) => l.length - i) (fun u (i : Nat) => [none, none, none, none, some (u 4), some (u 5), some (u 6), none, none, none, none, none, none, none, none, some (.int .i64 (i : Nat)), some (u 16), some (u 17), some (u 18), some (u 19), some (u 20), some (u 21), some (u 22), some (u 23), some (u 24), some (u 25), some (u 26), some (u 27), some (u 28), some (u 29), some (u 30), some (u 31), some (u 32), some (u 33), some (u 34), some (u 35), some (u 36), some (u 37), some (u 38), some (u 39), some (u 40), some (u 41), some (u 42), some (u 43), some (u 44), some (u 45), some (u 46), some (u 47), some (u 48), some (u 49), some (u 50), some (u 51), some (u 52), some (u 53), some (u 54), some (u 55), some (u 56), some (u 57), some (u 58), some (u 59), some (u 60), some (u 61), some (u 62), some (u 63), some (u 64), some (u 65), some (u 66), some (u 67), some (u 68), some (u 69), some (u 70), some (u 71), some (u 72), some (u 73), some (u 74), some (u 75), some (u 76), some (u 77), some (u 78), some (u 79), some (u 80), some (u 81), some (u 82)]) (fun (i : Nat) => []) (fun (i : Nat) => []) (0) (by kernel_rfl) ?_ (by kernel_rfl) ?_ ?_
      · exact ⟨Nat.zero_le _, fun j hj => absurd hj (Nat.not_lt_zero _)⟩
      · exact subset_nil
      intro u i hC
      obtain ⟨hi, hj⟩ := hC
      refine JC_norm ⟨83, [], [_, _, _, _, _, _, _, _, _, _, _, _, _, _, _, _, _, _, _, _, _, _, _, _, _, _, _, _, _, _, _, _, _, _, _, _, _, _, _, _, _, _, _, _, _, _, _, _, _, _, _, _, _, _, _, _, _, _, _, _, _, _, _, _, _, _, _, _, _, _, _, _, _, _, _, _, _, _, _, _, _, _, _]⟩ [] [_] rfl rfl rfl ?_
      refine JC_seq ?_
      refine JC_region ?_
      refine JL_lss rfl rfl ?_
      refine JL_split (fun h16 => ?_) (fun h16 => ?_)
      · refine JL_done_up 83 [] [_] rfl rfl (by simp only [nrmF]; rfl) rfl rfl ?_
        refine JC_seq ?_
        refine JC_true rfl ?_
        refine JC_skip ?_
        refine JE_then ?_
        refine JC_seq ?_
        refine JC_block ?_
        refine JC_seq ?_
        refine JC_region ?_
        refine JL_move rfl ?_
        refine JL_indexAddr i sl22 rfl rfl rfl (by omega) (by first | exact Reads.view (by repeat (first | with_reducible exact mm0 | refine mmS ?_))) (by rw [pcells_length]; omega) ?_
        refine JL_loadEA (vs := [_, _]) ty53 (Nat.zero_lt_succ _) rfl (by first | exact Reads.view (by repeat (first | with_reducible exact mm0 | refine mmS ?_))) (pcells_getA (by omega)) ?_
        refine JL_alloc z53 (fun b6 => ?_)
        refine JL_assign rfl ?_
        refine JL_store (vs := [_, _]) 0 ty53 rfl rfl rfl (AllOne.cons rfl (AllOne.cons rfl AllOne.nil)) rfl (Nat.le_of_ble_eq_true rfl) ?_
        refine JL_done_up 83 [box _ _ [_, _]] [_] rfl rfl (by simp only [nrmF]; rfl) rfl rfl ?_
        refine JC_seq ?_
        refine JC_seq ?_
        refine JC_region ?_
        refine JL_fieldAddr fo53_0 rfl ?_
        refine JL_load 0 ty3 rfl rfl rfl ?_
        refine JL_lss rfl rfl ?_
        refine JL_split (fun h22 => ?_) (fun h22 => ?_)
        · refine JL_move rfl ?_
          refine JL_guard_no rfl rfl ?_
          refine JL_guard_no rfl rfl ?_
          refine JL_guard_no rfl rfl ?_
          refine JL_guard_no rfl rfl ?_
          refine JL_pick_t rfl rfl ?_
          refine JL_move rfl ?_
          refine JL_guard_no rfl rfl ?_
          refine JL_guard_no rfl rfl ?_
          refine JL_guard_no rfl rfl ?_
          refine JL_pick_t rfl rfl ?_
          refine JL_move rfl ?_
          refine JL_guard_no rfl rfl ?_
          refine JL_guard_no rfl rfl ?_
          refine JL_guard_no rfl rfl ?_
          refine JL_guard_no rfl rfl ?_
          refine JL_pick_t rfl rfl ?_
          refine JL_move rfl ?_
          refine JL_guard_no rfl rfl ?_
          refine JL_guard_no rfl rfl ?_
          refine JL_guard_no rfl rfl ?_
          refine JL_guard_no rfl rfl ?_
          refine JL_guard_no rfl rfl ?_
          refine JL_pick_t rfl rfl ?_
          refine JL_done_up 83 [box _ _ [_, _]] [_] rfl rfl (by simp only [nrmF]; rfl) rfl rfl ?_
          refine JC_true rfl ?_
          refine JC_seq ?_
          refine JC_region ?_
          refine JL_assign rfl ?_
          refine JL_done_up 83 [box _ _ [_, _]] [_] rfl rfl (by simp only [nrmF]; rfl) rfl rfl ?_
          refine JC_ret ?_
          refine JE_then_ret ?_
          refine JE_block_ret ?_
          refine JE_then_ret ?_
          refine JE_nextS_ret ?_
          refine JE_block_ret ?_
          refine JE_then_ret ?_
          refine JE_ret (vs := [_]) [] Tryz.results55 ⟨rfl, rfl⟩ ?_ ?_
          · rw [dgC_no (i := i) (by omega) (fun h => by have h1 := h.1; have h2 := h.2; omega)]; exact ⟨rfl, rfl⟩
          · exact all_nil
        · refine JL_move rfl ?_
          refine JL_guard_yes rfl rfl ?_
          refine JL_fieldAddr fo53_0 rfl ?_
          refine JL_guard_yes rfl rfl ?_
          refine JL_load 0 ty3 rfl rfl rfl ?_
          refine JL_guard_yes rfl rfl ?_
          refine JL_move rfl ?_
          refine JL_guard_yes rfl rfl ?_
          refine JL_geq rfl rfl ?_
          refine JL_split (fun h27 => ?_) (fun h27 => ?_)
          · refine JL_pick_f rfl rfl ?_
            refine JL_move rfl ?_
            refine JL_guard_no rfl rfl ?_
            refine JL_guard_no rfl rfl ?_
            refine JL_guard_no rfl rfl ?_
            refine JL_pick_t rfl rfl ?_
            refine JL_move rfl ?_
            refine JL_guard_no rfl rfl ?_
            refine JL_guard_no rfl rfl ?_
            refine JL_guard_no rfl rfl ?_
            refine JL_guard_no rfl rfl ?_
            refine JL_pick_t rfl rfl ?_
            refine JL_move rfl ?_
            refine JL_guard_no rfl rfl ?_
            refine JL_guard_no rfl rfl ?_
            refine JL_guard_no rfl rfl ?_
            refine JL_guard_no rfl rfl ?_
            refine JL_guard_no rfl rfl ?_
            refine JL_pick_t rfl rfl ?_
            refine JL_done_up 83 [box _ _ [_, _]] [_] rfl rfl (by simp only [nrmF]; rfl) rfl rfl ?_
            refine JC_true rfl ?_
            refine JC_seq ?_
            refine JC_region ?_
            refine JL_assign rfl ?_
            refine JL_done_up 83 [box _ _ [_, _]] [_] rfl rfl (by simp only [nrmF]; rfl) rfl rfl ?_
            refine JC_ret ?_
            refine JE_then_ret ?_
            refine JE_block_ret ?_
            refine JE_then_ret ?_
            refine JE_nextS_ret ?_
            refine JE_block_ret ?_
            refine JE_then_ret ?_
            refine JE_ret (vs := [_]) [] Tryz.results55 ⟨rfl, rfl⟩ ?_ ?_
            · rw [dgC_no (i := i) (by omega) (fun h => by have h1 := h.1; have h2 := h.2; omega)]; exact ⟨rfl, rfl⟩
            · exact all_nil
          · refine JL_pick_f rfl rfl ?_
            refine JL_move rfl ?_
            refine JL_guard_yes rfl rfl ?_
            refine JL_fieldAddr fo53_1 rfl ?_
            refine JL_guard_yes rfl rfl ?_
            refine JL_load 0 ty3 rfl rfl rfl ?_
            refine JL_guard_yes rfl rfl ?_
            refine JL_lss rfl rfl ?_
            refine JL_split (fun h32 => ?_) (fun h32 => ?_)
            · refine JL_pick_f rfl rfl ?_
              refine JL_move rfl ?_
              refine JL_guard_no rfl rfl ?_
              refine JL_guard_no rfl rfl ?_
              refine JL_guard_no rfl rfl ?_
              refine JL_guard_no rfl rfl ?_
              refine JL_pick_t rfl rfl ?_
              refine JL_move rfl ?_
              refine JL_guard_no rfl rfl ?_
              refine JL_guard_no rfl rfl ?_
              refine JL_guard_no rfl rfl ?_
              refine JL_guard_no rfl rfl ?_
              refine JL_guard_no rfl rfl ?_
              refine JL_pick_t rfl rfl ?_
              refine JL_done_up 83 [box _ _ [_, _]] [_] rfl rfl (by simp only [nrmF]; rfl) rfl rfl ?_
              refine JC_true rfl ?_
              refine JC_seq ?_
              refine JC_region ?_
              refine JL_assign rfl ?_
              refine JL_done_up 83 [box _ _ [_, _]] [_] rfl rfl (by simp only [nrmF]; rfl) rfl rfl ?_
              refine JC_ret ?_
              refine JE_then_ret ?_
              refine JE_block_ret ?_
              refine JE_then_ret ?_
              refine JE_nextS_ret ?_
              refine JE_block_ret ?_
              refine JE_then_ret ?_
              refine JE_ret (vs := [_]) [] Tryz.results55 ⟨rfl, rfl⟩ ?_ ?_
              · rw [dgC_no (i := i) (by omega) (fun h => by have h1 := h.1; have h2 := h.2; omega)]; exact ⟨rfl, rfl⟩
              · exact all_nil
            · refine JL_pick_f rfl rfl ?_
              refine JL_move rfl ?_
              refine JL_guard_yes rfl rfl ?_
              refine JL_fieldAddr fo53_1 rfl ?_
              refine JL_guard_yes rfl rfl ?_
              refine JL_load 0 ty3 rfl rfl rfl ?_
              refine JL_guard_yes rfl rfl ?_
              refine JL_move rfl ?_
              refine JL_guard_yes rfl rfl ?_
              refine JL_geq rfl rfl ?_
              refine JL_split (fun h38 => ?_) (fun h38 => ?_)
              · refine JL_pick_f rfl rfl ?_
                refine JL_move rfl ?_
                refine JL_guard_no rfl rfl ?_
                refine JL_guard_no rfl rfl ?_
                refine JL_guard_no rfl rfl ?_
                refine JL_guard_no rfl rfl ?_
                refine JL_guard_no rfl rfl ?_
                refine JL_pick_t rfl rfl ?_
                refine JL_done_up 83 [box _ _ [_, _]] [_] rfl rfl (by simp only [nrmF]; rfl) rfl rfl ?_
                refine JC_true rfl ?_
                refine JC_seq ?_
                refine JC_region ?_
                refine JL_assign rfl ?_
                refine JL_done_up 83 [box _ _ [_, _]] [_] rfl rfl (by simp only [nrmF]; rfl) rfl rfl ?_
                refine JC_ret ?_
                refine JE_then_ret ?_
                refine JE_block_ret ?_
                refine JE_then_ret ?_
                refine JE_nextS_ret ?_
                refine JE_block_ret ?_
                refine JE_then_ret ?_
                refine JE_ret (vs := [_]) [] Tryz.results55 ⟨rfl, rfl⟩ ?_ ?_
                · rw [dgC_no (i := i) (by omega) (fun h => by have h1 := h.1; have h2 := h.2; omega)]; exact ⟨rfl, rfl⟩
                · exact all_nil
              · refine JL_pick_f rfl rfl ?_
                refine JL_move rfl ?_
                refine JL_guard_yes rfl rfl ?_
                refine JL_fieldAddr fo53_0 rfl ?_
                refine JL_guard_yes rfl rfl ?_
                refine JL_load 0 ty3 rfl rfl rfl ?_
                refine JL_guard_yes rfl rfl ?_
                refine JL_fieldAddr fo53_1 rfl ?_
                refine JL_guard_yes rfl rfl ?_
                refine JL_load 0 ty3 rfl rfl rfl ?_
                refine JL_guard_yes rfl rfl ?_
                refine JL_eql rfl rfl ?_
                refine JL_split (fun h45 => ?_) (fun h45 => ?_)
                · refine JL_pick_f rfl rfl ?_
                  refine JL_done_up 83 [box _ _ [_, _]] [_] rfl rfl (by simp only [nrmF]; rfl) rfl rfl ?_
                  refine JC_true rfl ?_
                  refine JC_seq ?_
                  refine JC_region ?_
                  refine JL_assign rfl ?_
                  refine JL_done_up 83 [box _ _ [_, _]] [_] rfl rfl (by simp only [nrmF]; rfl) rfl rfl ?_
                  refine JC_ret ?_
                  refine JE_then_ret ?_
                  refine JE_block_ret ?_
                  refine JE_then_ret ?_
                  refine JE_nextS_ret ?_
                  refine JE_block_ret ?_
                  refine JE_then_ret ?_
                  refine JE_ret (vs := [_]) [] Tryz.results55 ⟨rfl, rfl⟩ ?_ ?_
                  · rw [dgC_no (i := i) (by omega) (fun h => by have h1 := h.1; have h2 := h.2; omega)]; exact ⟨rfl, rfl⟩
                  · exact all_nil
                · refine JL_pick_f rfl rfl ?_
                  refine JL_done_up 83 [box _ _ [_, _]] [_] rfl rfl (by simp only [nrmF]; rfl) rfl rfl ?_
                  refine JC_false rfl ?_
                  refine JC_skip ?_
                  refine JE_then ?_
                  refine JC_seq ?_
                  rcases arc5 l i with h0 | h0 | h0 | h0 | h0
                  · refine JC_drawT mixed 35 [spV 47 [] _, spV 48 [0] _, spV 49 [1] _, spV 50 [2] _, spV 51 [2, 3] _, spV 52 [2] _, spV 53 [2] _, spV 54 [2, 6] _, spV 55 [2, 5, 7] _, spV 56 [2, 8] _, spV 57 [2, 9] _, spV 58 [2, 4, 10] _, spV 59 [2, 11] _, spV 60 [12] _, spV 61 [12, 13] _, spV 62 [12] _, spV 63 [12] _, spV 64 [12, 16] _, spV 65 [12, 15, 17] _, spV 66 [12, 18] _, spV 67 [12, 19] _, spV 68 [12, 14, 20] _, spV 69 [12, 21] _, spV 70 [22] _, spV 71 [22, 23] _, spV 72 [22] _, spV 73 [22] _, spV 74 [22, 26] _, spV 75 [22, 25, 27] _, spV 76 [22, 28] _, spV 77 [22, 29] _, spV 78 [22, 24, 30] _, spV 79 [12, 22, 31] _, spV 80 [2, 12, 32] _, spV 81 [2, 33] _] ⟨OblS_V (fun vals ex ψ => (by
                        refine JL_move rfl ?_
                        exact JL_nil (JE_stepV rfl ss0))), OblS_V (fun vals ex ψ => (by
                        refine JL_gtr rfl rfl ?_
                        rw [decide_eq_false (p := (0 : Int) < (i : Int)) (by omega)]
                        exact JL_nil (JE_stepV rfl ss0))), OblS_V (fun vals ex ψ => (by
                        refine JL_move rfl ?_
                        exact JL_nil (JE_stepV rfl ss0))), OblS_V (fun vals ex ψ => (by
                        refine JL_guard_no rfl rfl ?_
                        exact JL_nil (JE_stepV rfl ss0))), OblS_V (fun vals ex ψ => (by
                        refine JL_guard_no rfl rfl ?_
                        exact JL_nil (JE_stepV rfl ss0))), OblS_V (fun vals ex ψ => (by
                        refine JL_guard_no rfl rfl ?_
                        exact JL_nil (JE_stepV rfl ss0))), OblS_V (fun vals ex ψ => (by
                        refine JL_guard_no rfl rfl ?_
                        exact JL_nil (JE_stepV rfl ss0))), OblS_V (fun vals ex ψ => (by
                        refine JL_guard_no rfl rfl ?_
                        exact JL_nil (JE_stepV rfl ss0))), OblS_V (fun vals ex ψ => (by
                        refine JL_guard_no rfl rfl ?_
                        exact JL_nil (JE_stepV rfl ss0))), OblS_V (fun vals ex ψ => (by
                        refine JL_guard_no rfl rfl ?_
                        exact JL_nil (JE_stepV rfl ss0))), OblS_V (fun vals ex ψ => (by
                        refine JL_guard_no rfl rfl ?_
                        exact JL_nil (JE_stepV rfl ss0))), OblS_V (fun vals ex ψ => (by
                        refine JL_guard_no rfl rfl ?_
                        exact JL_nil (JE_stepV rfl ss0))), OblS_V (fun vals ex ψ => (by
                        refine JL_guard_no rfl rfl ?_
                        exact JL_nil (JE_stepV rfl ss0))), OblS_V (fun vals ex ψ => (by
                        refine JL_guard_un rfl rfl ?_
                        exact JL_nil (JE_stepV rfl ss0))), OblS_V (fun vals ex ψ => (by
                        refine JL_guard_un rfl rfl ?_
                        exact JL_nil (JE_stepV rfl ss0))), OblS_V (fun vals ex ψ => (by
                        refine JL_guard_un rfl rfl ?_
                        exact JL_nil (JE_stepV rfl ss0))), OblS_V (fun vals ex ψ => (by
                        refine JL_guard_un rfl rfl ?_
                        exact JL_nil (JE_stepV rfl ss0))), OblS_V (fun vals ex ψ => (by
                        refine JL_guard_un rfl rfl ?_
                        exact JL_nil (JE_stepV rfl ss0))), OblS_V (fun vals ex ψ => (by
                        refine JL_guard_un rfl rfl ?_
                        exact JL_nil (JE_stepV rfl ss0))), OblS_V (fun vals ex ψ => (by
                        refine JL_guard_un rfl rfl ?_
                        exact JL_nil (JE_stepV rfl ss0))), OblS_V (fun vals ex ψ => (by
                        refine JL_guard_un rfl rfl ?_
                        exact JL_nil (JE_stepV rfl ss0))), OblS_V (fun vals ex ψ => (by
                        refine JL_guard_un rfl rfl ?_
                        exact JL_nil (JE_stepV rfl ss0))), OblS_V (fun vals ex ψ => (by
                        refine JL_guard_un rfl rfl ?_
                        exact JL_nil (JE_stepV rfl ss0))), OblS_V (fun vals ex ψ => (by
                        refine JL_guard_un rfl rfl ?_
                        exact JL_nil (JE_stepV rfl ss0))), OblS_V (fun vals ex ψ => (by
                        refine JL_guard_un rfl rfl ?_
                        exact JL_nil (JE_stepV rfl ss0))), OblS_V (fun vals ex ψ => (by
                        refine JL_guard_un rfl rfl ?_
                        exact JL_nil (JE_stepV rfl ss0))), OblS_V (fun vals ex ψ => (by
                        refine JL_guard_un rfl rfl ?_
                        exact JL_nil (JE_stepV rfl ss0))), OblS_V (fun vals ex ψ => (by
                        refine JL_guard_un rfl rfl ?_
                        exact JL_nil (JE_stepV rfl ss0))), OblS_V (fun vals ex ψ => (by
                        refine JL_guard_un rfl rfl ?_
                        exact JL_nil (JE_stepV rfl ss0))), OblS_V (fun vals ex ψ => (by
                        refine JL_guard_un rfl rfl ?_
                        exact JL_nil (JE_stepV rfl ss0))), OblS_V (fun vals ex ψ => (by
                        refine JL_guard_un rfl rfl ?_
                        exact JL_nil (JE_stepV rfl ss0))), OblS_V (fun vals ex ψ => (by
                        refine JL_guard_un rfl rfl ?_
                        exact JL_nil (JE_stepV rfl ss0))), OblS_V (fun vals ex ψ => (by
                        refine JL_guard_un rfl rfl ?_
                        exact JL_nil (JE_stepV rfl ss0))), OblS_V (fun vals ex ψ => (by
                        refine JL_guard_no rfl rfl ?_
                        exact JL_nil (JE_stepV rfl ss0))), OblS_V (fun vals ex ψ => (by
                        refine JL_pick_f rfl rfl ?_
                        exact JL_nil (JE_stepV rfl ss0))), trivial⟩ (by kernel_rfl) (fun vals bs => ?_)
                    refine JL_normL [] ⟨83, [(47, _), (48, _), (49, _), (50, _), (51, _), (52, _), (53, _), (54, _), (55, _), (56, _), (57, _), (58, _), (59, _), (60, _), (61, _), (62, _), (63, _), (64, _), (65, _), (66, _), (67, _), (68, _), (69, _), (70, _), (71, _), (72, _), (73, _), (74, _), (75, _), (76, _), (77, _), (78, _), (79, _), (80, _), (81, _)], _⟩ [box _ _ [_, _]] [_] rfl rfl rfl rfl ?_
                    refine JL_done_up 83 [box _ _ [_, _]] [_] rfl rfl (by simp only [nrmF]; rfl) rfl rfl ?_
                    refine JC_false rfl ?_
                    refine JC_skip ?_
                    refine JE_block_normal ?_
                    refine JE_then ?_
                    refine JC_region ?_
                    refine JL_add_to rfl rfl (IntWalk.i64_in _ (by omega)) ?_
                    refine JL_move rfl ?_
                    refine JL_nil_up 83 [box _ _ [_, _]] [_] rfl rfl (by simp only [nrmF]; rfl) rfl rfl ?_
                    refine JE_dropAt 0 ?_
                    refine JE_norm _ [] [_] rfl rfl rfl ?_
                    refine JE_nextS (i + 1) (by kernel_rfl) ?_ ?_ (by kernel_rfl) ?_
                    · exact ⟨by omega, arcNext hj ⟨⟨⟨by omega, by omega⟩, ⟨by omega, by omega⟩, by omega⟩, fun h0 => absurd h0 (by omega)⟩⟩
                    · first | omega | (dsimp only; omega)
                    · exact subset_app subset_nil ss0
                  · refine JC_drawT mixed 35 [spV 47 [] _, spV 48 [0] _, spV 49 [1] _, spV 50 [2] _, spV 51 [2, 3] _, spV 52 [2] _, spV 53 [2] _, spV 54 [2, 6] _, spV 55 [2, 5, 7] _, spV 56 [2, 8] _, spV 57 [2, 9] _, spV 58 [2, 4, 10] _, spV 59 [2, 11] _, spV 60 [12] _, spV 61 [12, 13] _, spV 62 [12] _, spV 63 [12] _, spV 64 [12, 16] _, spV 65 [12, 15, 17] _, spV 66 [12, 18] _, spV 67 [12, 19] _, spV 68 [12, 14, 20] _, spV 69 [12, 21] _, spV 70 [22] _, spV 71 [22, 23] _, spV 72 [22] _, spV 73 [22] _, spV 74 [22, 26] _, spV 75 [22, 25, 27] _, spV 76 [22, 28] _, spV 77 [22, 29] _, spV 78 [22, 24, 30] _, spV 79 [12, 22, 31] _, spV 80 [2, 12, 32] _, spV 81 [2, 33] _] ⟨OblS_V (fun vals ex ψ => (by
                        refine JL_move rfl ?_
                        exact JL_nil (JE_stepV rfl ss0))), OblS_V (fun vals ex ψ => (by
                        refine JL_gtr rfl rfl ?_
                        rw [decide_eq_true (p := (0 : Int) < (i : Int)) (by omega)]
                        exact JL_nil (JE_stepV rfl ss0))), OblS_V (fun vals ex ψ => (by
                        refine JL_move rfl ?_
                        exact JL_nil (JE_stepV rfl ss0))), OblS_V (fun vals ex ψ => (by
                        refine JL_normQ _ (_ :: ψ) rfl rfl ?_
                        refine JL_guard_yes rfl rfl ?_
                        refine JL_fieldAddr fo53_0 rfl ?_
                        exact JL_nil (JE_stepV rfl ss0))), OblS_V (fun vals ex ψ => (by
                        refine JL_normQ _ (_ :: ψ) rfl rfl ?_
                        refine JL_guard_yes rfl rfl ?_
                        refine JL_load 0 ty3 rfl rfl rfl ?_
                        exact JL_nil (JE_stepV rfl ss0))), OblS_V (fun vals ex ψ => (by
                        refine JL_guard_yes rfl rfl ?_
                        refine JL_move rfl ?_
                        exact JL_nil (JE_stepV rfl ss0))), OblS_V (fun vals ex ψ => (by
                        refine JL_guard_yes rfl rfl ?_
                        refine JL_move rfl ?_
                        exact JL_nil (JE_stepV rfl ss0))), OblS_V (fun vals ex ψ => (by
                        refine JL_guard_yes rfl rfl ?_
                        refine JL_sub_to rfl rfl (IntWalk.i64_in _ (by omega)) ?_
                        exact JL_nil (JE_stepV rfl ss0))), OblS_V (fun vals ex ψ => (by
                        refine JL_normQ _ (_ :: ψ) rfl rfl ?_
                        refine JL_guard_yes rfl rfl ?_
                        refine JL_indexAddr (i - 1) sl22 rfl rfl (by omega) (by omega) (by first | exact Reads.view (by repeat (first | with_reducible exact mm0 | refine mmS ?_))) (by rw [pcells_length]; omega) ?_
                        exact JL_nil (JE_stepV rfl ss0))), OblS_V (fun vals ex ψ => (by
                        refine JL_normQ _ (_ :: ψ) rfl rfl ?_
                        refine JL_guard_yes rfl rfl ?_
                        refine JL_fieldAddrE fo53_0 rfl (by first | exact Reads.view (by repeat (first | with_reducible exact mm0 | refine mmS ?_))) (by rw [pcells_length]; omega) ?_
                        exact JL_nil (JE_stepV rfl ss0))), OblS_V (fun vals ex ψ => (by
                        refine JL_normQ _ (_ :: ψ) rfl rfl ?_
                        refine JL_guard_yes rfl rfl ?_
                        refine JL_loadE ty3 rfl (by first | exact Reads.view (by repeat (first | with_reducible exact mm0 | refine mmS ?_))) (pcells_one (by omega)).1 ?_
                        exact JL_nil (JE_stepV rfl ss0))), OblS_V (fun vals ex ψ => (by
                        refine JL_guard_yes rfl rfl ?_
                        refine JL_lss rfl rfl ?_
                        rw [decide_eq_true (p := (l.getD i dP).1 < (l.getD (i - 1) dP).1) (by omega)]
                        exact JL_nil (JE_stepV rfl ss0))), OblS_V (fun vals ex ψ => (by
                        refine JL_guard_yes rfl rfl ?_
                        refine JL_move rfl ?_
                        exact JL_nil (JE_stepV rfl ss0))), OblS_V (fun vals ex ψ => (by
                        refine JL_guard_no rfl rfl ?_
                        exact JL_nil (JE_stepV rfl ss0))), OblS_V (fun vals ex ψ => (by
                        refine JL_guard_no rfl rfl ?_
                        exact JL_nil (JE_stepV rfl ss0))), OblS_V (fun vals ex ψ => (by
                        refine JL_guard_no rfl rfl ?_
                        exact JL_nil (JE_stepV rfl ss0))), OblS_V (fun vals ex ψ => (by
                        refine JL_guard_no rfl rfl ?_
                        exact JL_nil (JE_stepV rfl ss0))), OblS_V (fun vals ex ψ => (by
                        refine JL_guard_no rfl rfl ?_
                        exact JL_nil (JE_stepV rfl ss0))), OblS_V (fun vals ex ψ => (by
                        refine JL_guard_no rfl rfl ?_
                        exact JL_nil (JE_stepV rfl ss0))), OblS_V (fun vals ex ψ => (by
                        refine JL_guard_no rfl rfl ?_
                        exact JL_nil (JE_stepV rfl ss0))), OblS_V (fun vals ex ψ => (by
                        refine JL_guard_no rfl rfl ?_
                        exact JL_nil (JE_stepV rfl ss0))), OblS_V (fun vals ex ψ => (by
                        refine JL_guard_no rfl rfl ?_
                        exact JL_nil (JE_stepV rfl ss0))), OblS_V (fun vals ex ψ => (by
                        refine JL_guard_no rfl rfl ?_
                        exact JL_nil (JE_stepV rfl ss0))), OblS_V (fun vals ex ψ => (by
                        refine JL_guard_un rfl rfl ?_
                        exact JL_nil (JE_stepV rfl ss0))), OblS_V (fun vals ex ψ => (by
                        refine JL_guard_un rfl rfl ?_
                        exact JL_nil (JE_stepV rfl ss0))), OblS_V (fun vals ex ψ => (by
                        refine JL_guard_un rfl rfl ?_
                        exact JL_nil (JE_stepV rfl ss0))), OblS_V (fun vals ex ψ => (by
                        refine JL_guard_un rfl rfl ?_
                        exact JL_nil (JE_stepV rfl ss0))), OblS_V (fun vals ex ψ => (by
                        refine JL_guard_un rfl rfl ?_
                        exact JL_nil (JE_stepV rfl ss0))), OblS_V (fun vals ex ψ => (by
                        refine JL_guard_un rfl rfl ?_
                        exact JL_nil (JE_stepV rfl ss0))), OblS_V (fun vals ex ψ => (by
                        refine JL_guard_un rfl rfl ?_
                        exact JL_nil (JE_stepV rfl ss0))), OblS_V (fun vals ex ψ => (by
                        refine JL_guard_un rfl rfl ?_
                        exact JL_nil (JE_stepV rfl ss0))), OblS_V (fun vals ex ψ => (by
                        refine JL_guard_un rfl rfl ?_
                        exact JL_nil (JE_stepV rfl ss0))), OblS_V (fun vals ex ψ => (by
                        refine JL_guard_no rfl rfl ?_
                        exact JL_nil (JE_stepV rfl ss0))), OblS_V (fun vals ex ψ => (by
                        refine JL_guard_yes rfl rfl ?_
                        refine JL_pick_t rfl rfl ?_
                        exact JL_nil (JE_stepV rfl ss0))), OblS_V (fun vals ex ψ => (by
                        refine JL_pick_t rfl rfl ?_
                        exact JL_nil (JE_stepV rfl ss0))), trivial⟩ (by kernel_rfl) (fun vals bs => ?_)
                    refine JL_normL [] ⟨83, [(47, _), (48, _), (49, _), (50, _), (51, _), (52, _), (53, _), (54, _), (55, _), (56, _), (57, _), (58, _), (59, _), (60, _), (61, _), (62, _), (63, _), (64, _), (65, _), (66, _), (67, _), (68, _), (69, _), (70, _), (71, _), (72, _), (73, _), (74, _), (75, _), (76, _), (77, _), (78, _), (79, _), (80, _), (81, _)], _⟩ [box _ _ [_, _]] [_] rfl rfl rfl rfl ?_
                    refine JL_done_up 83 [box _ _ [_, _]] [_] rfl rfl (by simp only [nrmF]; rfl) rfl rfl ?_
                    refine JC_true rfl ?_
                    refine JC_seq ?_
                    refine JC_region ?_
                    refine JL_assign rfl ?_
                    refine JL_done_up 83 [box _ _ [_, _]] [_] rfl rfl (by simp only [nrmF]; rfl) rfl rfl ?_
                    refine JC_ret ?_
                    refine JE_block_ret ?_
                    refine JE_then_ret ?_
                    refine JE_nextS_ret ?_
                    refine JE_block_ret ?_
                    refine JE_then_ret ?_
                    refine JE_ret (vs := [_]) [] Tryz.results55 ⟨rfl, rfl⟩ ?_ ?_
                    · rw [dgC_no (i := i) (by omega) (fun h => by have h1 := h.1; have h2 := h.2; rcases h2 (by omega) with h3 | h3 <;> omega)]; exact ⟨rfl, rfl⟩
                    · exact all_nil
                  · refine JC_drawT mixed 35 [spV 47 [] _, spV 48 [0] _, spV 49 [1] _, spV 50 [2] _, spV 51 [2, 3] _, spV 52 [2] _, spV 53 [2] _, spV 54 [2, 6] _, spV 55 [2, 5, 7] _, spV 56 [2, 8] _, spV 57 [2, 9] _, spV 58 [2, 4, 10] _, spV 59 [2, 11] _, spV 60 [12] _, spV 61 [12, 13] _, spV 62 [12] _, spV 63 [12] _, spV 64 [12, 16] _, spV 65 [12, 15, 17] _, spV 66 [12, 18] _, spV 67 [12, 19] _, spV 68 [12, 14, 20] _, spV 69 [12, 21] _, spV 70 [22] _, spV 71 [22, 23] _, spV 72 [22] _, spV 73 [22] _, spV 74 [22, 26] _, spV 75 [22, 25, 27] _, spV 76 [22, 28] _, spV 77 [22, 29] _, spV 78 [22, 24, 30] _, spV 79 [12, 22, 31] _, spV 80 [2, 12, 32] _, spV 81 [2, 33] _] ⟨OblS_V (fun vals ex ψ => (by
                        refine JL_move rfl ?_
                        exact JL_nil (JE_stepV rfl ss0))), OblS_V (fun vals ex ψ => (by
                        refine JL_gtr rfl rfl ?_
                        rw [decide_eq_true (p := (0 : Int) < (i : Int)) (by omega)]
                        exact JL_nil (JE_stepV rfl ss0))), OblS_V (fun vals ex ψ => (by
                        refine JL_move rfl ?_
                        exact JL_nil (JE_stepV rfl ss0))), OblS_V (fun vals ex ψ => (by
                        refine JL_normQ _ (_ :: ψ) rfl rfl ?_
                        refine JL_guard_yes rfl rfl ?_
                        refine JL_fieldAddr fo53_0 rfl ?_
                        exact JL_nil (JE_stepV rfl ss0))), OblS_V (fun vals ex ψ => (by
                        refine JL_normQ _ (_ :: ψ) rfl rfl ?_
                        refine JL_guard_yes rfl rfl ?_
                        refine JL_load 0 ty3 rfl rfl rfl ?_
                        exact JL_nil (JE_stepV rfl ss0))), OblS_V (fun vals ex ψ => (by
                        refine JL_guard_yes rfl rfl ?_
                        refine JL_move rfl ?_
                        exact JL_nil (JE_stepV rfl ss0))), OblS_V (fun vals ex ψ => (by
                        refine JL_guard_yes rfl rfl ?_
                        refine JL_move rfl ?_
                        exact JL_nil (JE_stepV rfl ss0))), OblS_V (fun vals ex ψ => (by
                        refine JL_guard_yes rfl rfl ?_
                        refine JL_sub_to rfl rfl (IntWalk.i64_in _ (by omega)) ?_
                        exact JL_nil (JE_stepV rfl ss0))), OblS_V (fun vals ex ψ => (by
                        refine JL_normQ _ (_ :: ψ) rfl rfl ?_
                        refine JL_guard_yes rfl rfl ?_
                        refine JL_indexAddr (i - 1) sl22 rfl rfl (by omega) (by omega) (by first | exact Reads.view (by repeat (first | with_reducible exact mm0 | refine mmS ?_))) (by rw [pcells_length]; omega) ?_
                        exact JL_nil (JE_stepV rfl ss0))), OblS_V (fun vals ex ψ => (by
                        refine JL_normQ _ (_ :: ψ) rfl rfl ?_
                        refine JL_guard_yes rfl rfl ?_
                        refine JL_fieldAddrE fo53_0 rfl (by first | exact Reads.view (by repeat (first | with_reducible exact mm0 | refine mmS ?_))) (by rw [pcells_length]; omega) ?_
                        exact JL_nil (JE_stepV rfl ss0))), OblS_V (fun vals ex ψ => (by
                        refine JL_normQ _ (_ :: ψ) rfl rfl ?_
                        refine JL_guard_yes rfl rfl ?_
                        refine JL_loadE ty3 rfl (by first | exact Reads.view (by repeat (first | with_reducible exact mm0 | refine mmS ?_))) (pcells_one (by omega)).1 ?_
                        exact JL_nil (JE_stepV rfl ss0))), OblS_V (fun vals ex ψ => (by
                        refine JL_guard_yes rfl rfl ?_
                        refine JL_lss rfl rfl ?_
                        rw [decide_eq_false (p := (l.getD i dP).1 < (l.getD (i - 1) dP).1) (by omega)]
                        exact JL_nil (JE_stepV rfl ss0))), OblS_V (fun vals ex ψ => (by
                        refine JL_guard_yes rfl rfl ?_
                        refine JL_move rfl ?_
                        exact JL_nil (JE_stepV rfl ss0))), OblS_V (fun vals ex ψ => (by
                        refine JL_normQ _ (_ :: ψ) rfl rfl ?_
                        refine JL_guard_yes rfl rfl ?_
                        refine JL_fieldAddr fo53_0 rfl ?_
                        exact JL_nil (JE_stepV rfl ss0))), OblS_V (fun vals ex ψ => (by
                        refine JL_normQ _ (_ :: ψ) rfl rfl ?_
                        refine JL_guard_yes rfl rfl ?_
                        refine JL_load 0 ty3 rfl rfl rfl ?_
                        exact JL_nil (JE_stepV rfl ss0))), OblS_V (fun vals ex ψ => (by
                        refine JL_guard_yes rfl rfl ?_
                        refine JL_move rfl ?_
                        exact JL_nil (JE_stepV rfl ss0))), OblS_V (fun vals ex ψ => (by
                        refine JL_guard_yes rfl rfl ?_
                        refine JL_move rfl ?_
                        exact JL_nil (JE_stepV rfl ss0))), OblS_V (fun vals ex ψ => (by
                        refine JL_guard_yes rfl rfl ?_
                        refine JL_sub_to rfl rfl (IntWalk.i64_in _ (by omega)) ?_
                        exact JL_nil (JE_stepV rfl ss0))), OblS_V (fun vals ex ψ => (by
                        refine JL_normQ _ (_ :: ψ) rfl rfl ?_
                        refine JL_guard_yes rfl rfl ?_
                        refine JL_indexAddr (i - 1) sl22 rfl rfl (by omega) (by omega) (by first | exact Reads.view (by repeat (first | with_reducible exact mm0 | refine mmS ?_))) (by rw [pcells_length]; omega) ?_
                        exact JL_nil (JE_stepV rfl ss0))), OblS_V (fun vals ex ψ => (by
                        refine JL_normQ _ (_ :: ψ) rfl rfl ?_
                        refine JL_guard_yes rfl rfl ?_
                        refine JL_fieldAddrE fo53_0 rfl (by first | exact Reads.view (by repeat (first | with_reducible exact mm0 | refine mmS ?_))) (by rw [pcells_length]; omega) ?_
                        exact JL_nil (JE_stepV rfl ss0))), OblS_V (fun vals ex ψ => (by
                        refine JL_normQ _ (_ :: ψ) rfl rfl ?_
                        refine JL_guard_yes rfl rfl ?_
                        refine JL_loadE ty3 rfl (by first | exact Reads.view (by repeat (first | with_reducible exact mm0 | refine mmS ?_))) (pcells_one (by omega)).1 ?_
                        exact JL_nil (JE_stepV rfl ss0))), OblS_V (fun vals ex ψ => (by
                        refine JL_guard_yes rfl rfl ?_
                        refine JL_eql rfl rfl ?_
                        rw [decide_eq_false (p := (l.getD i dP).1 = (l.getD (i - 1) dP).1) (by omega)]
                        exact JL_nil (JE_stepV rfl ss0))), OblS_V (fun vals ex ψ => (by
                        refine JL_guard_yes rfl rfl ?_
                        refine JL_move rfl ?_
                        exact JL_nil (JE_stepV rfl ss0))), OblS_V (fun vals ex ψ => (by
                        refine JL_guard_no rfl rfl ?_
                        exact JL_nil (JE_stepV rfl ss0))), OblS_V (fun vals ex ψ => (by
                        refine JL_guard_no rfl rfl ?_
                        exact JL_nil (JE_stepV rfl ss0))), OblS_V (fun vals ex ψ => (by
                        refine JL_guard_no rfl rfl ?_
                        exact JL_nil (JE_stepV rfl ss0))), OblS_V (fun vals ex ψ => (by
                        refine JL_guard_no rfl rfl ?_
                        exact JL_nil (JE_stepV rfl ss0))), OblS_V (fun vals ex ψ => (by
                        refine JL_guard_no rfl rfl ?_
                        exact JL_nil (JE_stepV rfl ss0))), OblS_V (fun vals ex ψ => (by
                        refine JL_guard_no rfl rfl ?_
                        exact JL_nil (JE_stepV rfl ss0))), OblS_V (fun vals ex ψ => (by
                        refine JL_guard_no rfl rfl ?_
                        exact JL_nil (JE_stepV rfl ss0))), OblS_V (fun vals ex ψ => (by
                        refine JL_guard_no rfl rfl ?_
                        exact JL_nil (JE_stepV rfl ss0))), OblS_V (fun vals ex ψ => (by
                        refine JL_guard_no rfl rfl ?_
                        exact JL_nil (JE_stepV rfl ss0))), OblS_V (fun vals ex ψ => (by
                        refine JL_guard_yes rfl rfl ?_
                        refine JL_pick_f rfl rfl ?_
                        exact JL_nil (JE_stepV rfl ss0))), OblS_V (fun vals ex ψ => (by
                        refine JL_guard_yes rfl rfl ?_
                        refine JL_pick_f rfl rfl ?_
                        exact JL_nil (JE_stepV rfl ss0))), OblS_V (fun vals ex ψ => (by
                        refine JL_pick_t rfl rfl ?_
                        exact JL_nil (JE_stepV rfl ss0))), trivial⟩ (by kernel_rfl) (fun vals bs => ?_)
                    refine JL_normL [] ⟨83, [(47, _), (48, _), (49, _), (50, _), (51, _), (52, _), (53, _), (54, _), (55, _), (56, _), (57, _), (58, _), (59, _), (60, _), (61, _), (62, _), (63, _), (64, _), (65, _), (66, _), (67, _), (68, _), (69, _), (70, _), (71, _), (72, _), (73, _), (74, _), (75, _), (76, _), (77, _), (78, _), (79, _), (80, _), (81, _)], _⟩ [box _ _ [_, _]] [_] rfl rfl rfl rfl ?_
                    refine JL_done_up 83 [box _ _ [_, _]] [_] rfl rfl (by simp only [nrmF]; rfl) rfl rfl ?_
                    refine JC_false rfl ?_
                    refine JC_skip ?_
                    refine JE_block_normal ?_
                    refine JE_then ?_
                    refine JC_region ?_
                    refine JL_add_to rfl rfl (IntWalk.i64_in _ (by omega)) ?_
                    refine JL_move rfl ?_
                    refine JL_nil_up 83 [box _ _ [_, _]] [_] rfl rfl (by simp only [nrmF]; rfl) rfl rfl ?_
                    refine JE_dropAt 0 ?_
                    refine JE_norm _ [] [_] rfl rfl rfl ?_
                    refine JE_nextS (i + 1) (by kernel_rfl) ?_ ?_ (by kernel_rfl) ?_
                    · exact ⟨by omega, arcNext hj ⟨⟨⟨by omega, by omega⟩, ⟨by omega, by omega⟩, by omega⟩, fun h0 => .inl (by omega)⟩⟩
                    · first | omega | (dsimp only; omega)
                    · exact subset_app subset_nil ss0
                  · refine JC_drawT mixed 35 [spV 47 [] _, spV 48 [0] _, spV 49 [1] _, spV 50 [2] _, spV 51 [2, 3] _, spV 52 [2] _, spV 53 [2] _, spV 54 [2, 6] _, spV 55 [2, 5, 7] _, spV 56 [2, 8] _, spV 57 [2, 9] _, spV 58 [2, 4, 10] _, spV 59 [2, 11] _, spV 60 [12] _, spV 61 [12, 13] _, spV 62 [12] _, spV 63 [12] _, spV 64 [12, 16] _, spV 65 [12, 15, 17] _, spV 66 [12, 18] _, spV 67 [12, 19] _, spV 68 [12, 14, 20] _, spV 69 [12, 21] _, spV 70 [22] _, spV 71 [22, 23] _, spV 72 [22] _, spV 73 [22] _, spV 74 [22, 26] _, spV 75 [22, 25, 27] _, spV 76 [22, 28] _, spV 77 [22, 29] _, spV 78 [22, 24, 30] _, spV 79 [12, 22, 31] _, spV 80 [2, 12, 32] _, spV 81 [2, 33] _] ⟨OblS_V (fun vals ex ψ => (by
                        refine JL_move rfl ?_
                        exact JL_nil (JE_stepV rfl ss0))), OblS_V (fun vals ex ψ => (by
                        refine JL_gtr rfl rfl ?_
                        rw [decide_eq_true (p := (0 : Int) < (i : Int)) (by omega)]
                        exact JL_nil (JE_stepV rfl ss0))), OblS_V (fun vals ex ψ => (by
                        refine JL_move rfl ?_
                        exact JL_nil (JE_stepV rfl ss0))), OblS_V (fun vals ex ψ => (by
                        refine JL_normQ _ (_ :: ψ) rfl rfl ?_
                        refine JL_guard_yes rfl rfl ?_
                        refine JL_fieldAddr fo53_0 rfl ?_
                        exact JL_nil (JE_stepV rfl ss0))), OblS_V (fun vals ex ψ => (by
                        refine JL_normQ _ (_ :: ψ) rfl rfl ?_
                        refine JL_guard_yes rfl rfl ?_
                        refine JL_load 0 ty3 rfl rfl rfl ?_
                        exact JL_nil (JE_stepV rfl ss0))), OblS_V (fun vals ex ψ => (by
                        refine JL_guard_yes rfl rfl ?_
                        refine JL_move rfl ?_
                        exact JL_nil (JE_stepV rfl ss0))), OblS_V (fun vals ex ψ => (by
                        refine JL_guard_yes rfl rfl ?_
                        refine JL_move rfl ?_
                        exact JL_nil (JE_stepV rfl ss0))), OblS_V (fun vals ex ψ => (by
                        refine JL_guard_yes rfl rfl ?_
                        refine JL_sub_to rfl rfl (IntWalk.i64_in _ (by omega)) ?_
                        exact JL_nil (JE_stepV rfl ss0))), OblS_V (fun vals ex ψ => (by
                        refine JL_normQ _ (_ :: ψ) rfl rfl ?_
                        refine JL_guard_yes rfl rfl ?_
                        refine JL_indexAddr (i - 1) sl22 rfl rfl (by omega) (by omega) (by first | exact Reads.view (by repeat (first | with_reducible exact mm0 | refine mmS ?_))) (by rw [pcells_length]; omega) ?_
                        exact JL_nil (JE_stepV rfl ss0))), OblS_V (fun vals ex ψ => (by
                        refine JL_normQ _ (_ :: ψ) rfl rfl ?_
                        refine JL_guard_yes rfl rfl ?_
                        refine JL_fieldAddrE fo53_0 rfl (by first | exact Reads.view (by repeat (first | with_reducible exact mm0 | refine mmS ?_))) (by rw [pcells_length]; omega) ?_
                        exact JL_nil (JE_stepV rfl ss0))), OblS_V (fun vals ex ψ => (by
                        refine JL_normQ _ (_ :: ψ) rfl rfl ?_
                        refine JL_guard_yes rfl rfl ?_
                        refine JL_loadE ty3 rfl (by first | exact Reads.view (by repeat (first | with_reducible exact mm0 | refine mmS ?_))) (pcells_one (by omega)).1 ?_
                        exact JL_nil (JE_stepV rfl ss0))), OblS_V (fun vals ex ψ => (by
                        refine JL_guard_yes rfl rfl ?_
                        refine JL_lss rfl rfl ?_
                        rw [decide_eq_false (p := (l.getD i dP).1 < (l.getD (i - 1) dP).1) (by omega)]
                        exact JL_nil (JE_stepV rfl ss0))), OblS_V (fun vals ex ψ => (by
                        refine JL_guard_yes rfl rfl ?_
                        refine JL_move rfl ?_
                        exact JL_nil (JE_stepV rfl ss0))), OblS_V (fun vals ex ψ => (by
                        refine JL_normQ _ (_ :: ψ) rfl rfl ?_
                        refine JL_guard_yes rfl rfl ?_
                        refine JL_fieldAddr fo53_0 rfl ?_
                        exact JL_nil (JE_stepV rfl ss0))), OblS_V (fun vals ex ψ => (by
                        refine JL_normQ _ (_ :: ψ) rfl rfl ?_
                        refine JL_guard_yes rfl rfl ?_
                        refine JL_load 0 ty3 rfl rfl rfl ?_
                        exact JL_nil (JE_stepV rfl ss0))), OblS_V (fun vals ex ψ => (by
                        refine JL_guard_yes rfl rfl ?_
                        refine JL_move rfl ?_
                        exact JL_nil (JE_stepV rfl ss0))), OblS_V (fun vals ex ψ => (by
                        refine JL_guard_yes rfl rfl ?_
                        refine JL_move rfl ?_
                        exact JL_nil (JE_stepV rfl ss0))), OblS_V (fun vals ex ψ => (by
                        refine JL_guard_yes rfl rfl ?_
                        refine JL_sub_to rfl rfl (IntWalk.i64_in _ (by omega)) ?_
                        exact JL_nil (JE_stepV rfl ss0))), OblS_V (fun vals ex ψ => (by
                        refine JL_normQ _ (_ :: ψ) rfl rfl ?_
                        refine JL_guard_yes rfl rfl ?_
                        refine JL_indexAddr (i - 1) sl22 rfl rfl (by omega) (by omega) (by first | exact Reads.view (by repeat (first | with_reducible exact mm0 | refine mmS ?_))) (by rw [pcells_length]; omega) ?_
                        exact JL_nil (JE_stepV rfl ss0))), OblS_V (fun vals ex ψ => (by
                        refine JL_normQ _ (_ :: ψ) rfl rfl ?_
                        refine JL_guard_yes rfl rfl ?_
                        refine JL_fieldAddrE fo53_0 rfl (by first | exact Reads.view (by repeat (first | with_reducible exact mm0 | refine mmS ?_))) (by rw [pcells_length]; omega) ?_
                        exact JL_nil (JE_stepV rfl ss0))), OblS_V (fun vals ex ψ => (by
                        refine JL_normQ _ (_ :: ψ) rfl rfl ?_
                        refine JL_guard_yes rfl rfl ?_
                        refine JL_loadE ty3 rfl (by first | exact Reads.view (by repeat (first | with_reducible exact mm0 | refine mmS ?_))) (pcells_one (by omega)).1 ?_
                        exact JL_nil (JE_stepV rfl ss0))), OblS_V (fun vals ex ψ => (by
                        refine JL_guard_yes rfl rfl ?_
                        refine JL_eql rfl rfl ?_
                        rw [decide_eq_true (p := (l.getD i dP).1 = (l.getD (i - 1) dP).1) (by omega)]
                        exact JL_nil (JE_stepV rfl ss0))), OblS_V (fun vals ex ψ => (by
                        refine JL_guard_yes rfl rfl ?_
                        refine JL_move rfl ?_
                        exact JL_nil (JE_stepV rfl ss0))), OblS_V (fun vals ex ψ => (by
                        refine JL_normQ _ (_ :: ψ) rfl rfl ?_
                        refine JL_guard_yes rfl rfl ?_
                        refine JL_fieldAddr fo53_1 rfl ?_
                        exact JL_nil (JE_stepV rfl ss0))), OblS_V (fun vals ex ψ => (by
                        refine JL_normQ _ (_ :: ψ) rfl rfl ?_
                        refine JL_guard_yes rfl rfl ?_
                        refine JL_load 0 ty3 rfl rfl rfl ?_
                        exact JL_nil (JE_stepV rfl ss0))), OblS_V (fun vals ex ψ => (by
                        refine JL_guard_yes rfl rfl ?_
                        refine JL_move rfl ?_
                        exact JL_nil (JE_stepV rfl ss0))), OblS_V (fun vals ex ψ => (by
                        refine JL_guard_yes rfl rfl ?_
                        refine JL_move rfl ?_
                        exact JL_nil (JE_stepV rfl ss0))), OblS_V (fun vals ex ψ => (by
                        refine JL_guard_yes rfl rfl ?_
                        refine JL_sub_to rfl rfl (IntWalk.i64_in _ (by omega)) ?_
                        exact JL_nil (JE_stepV rfl ss0))), OblS_V (fun vals ex ψ => (by
                        refine JL_normQ _ (_ :: ψ) rfl rfl ?_
                        refine JL_guard_yes rfl rfl ?_
                        refine JL_indexAddr (i - 1) sl22 rfl rfl (by omega) (by omega) (by first | exact Reads.view (by repeat (first | with_reducible exact mm0 | refine mmS ?_))) (by rw [pcells_length]; omega) ?_
                        exact JL_nil (JE_stepV rfl ss0))), OblS_V (fun vals ex ψ => (by
                        refine JL_normQ _ (_ :: ψ) rfl rfl ?_
                        refine JL_guard_yes rfl rfl ?_
                        refine JL_fieldAddrE fo53_1 rfl (by first | exact Reads.view (by repeat (first | with_reducible exact mm0 | refine mmS ?_))) (by rw [pcells_length]; omega) ?_
                        exact JL_nil (JE_stepV rfl ss0))), OblS_V (fun vals ex ψ => (by
                        refine JL_normQ _ (_ :: ψ) rfl rfl ?_
                        refine JL_guard_yes rfl rfl ?_
                        refine JL_loadE ty3 rfl (by first | exact Reads.view (by repeat (first | with_reducible exact mm0 | refine mmS ?_))) (pcells_one (by omega)).2 ?_
                        exact JL_nil (JE_stepV rfl ss0))), OblS_V (fun vals ex ψ => (by
                        refine JL_guard_yes rfl rfl ?_
                        refine JL_leq rfl rfl ?_
                        rw [decide_eq_true (p := (l.getD i dP).2 ≤ (l.getD (i - 1) dP).2) (by omega)]
                        exact JL_nil (JE_stepV rfl ss0))), OblS_V (fun vals ex ψ => (by
                        refine JL_guard_yes rfl rfl ?_
                        refine JL_pick_t rfl rfl ?_
                        exact JL_nil (JE_stepV rfl ss0))), OblS_V (fun vals ex ψ => (by
                        refine JL_guard_yes rfl rfl ?_
                        refine JL_pick_f rfl rfl ?_
                        exact JL_nil (JE_stepV rfl ss0))), OblS_V (fun vals ex ψ => (by
                        refine JL_pick_t rfl rfl ?_
                        exact JL_nil (JE_stepV rfl ss0))), trivial⟩ (by kernel_rfl) (fun vals bs => ?_)
                    refine JL_normL [] ⟨83, [(47, _), (48, _), (49, _), (50, _), (51, _), (52, _), (53, _), (54, _), (55, _), (56, _), (57, _), (58, _), (59, _), (60, _), (61, _), (62, _), (63, _), (64, _), (65, _), (66, _), (67, _), (68, _), (69, _), (70, _), (71, _), (72, _), (73, _), (74, _), (75, _), (76, _), (77, _), (78, _), (79, _), (80, _), (81, _)], _⟩ [box _ _ [_, _]] [_] rfl rfl rfl rfl ?_
                    refine JL_done_up 83 [box _ _ [_, _]] [_] rfl rfl (by simp only [nrmF]; rfl) rfl rfl ?_
                    refine JC_true rfl ?_
                    refine JC_seq ?_
                    refine JC_region ?_
                    refine JL_assign rfl ?_
                    refine JL_done_up 83 [box _ _ [_, _]] [_] rfl rfl (by simp only [nrmF]; rfl) rfl rfl ?_
                    refine JC_ret ?_
                    refine JE_block_ret ?_
                    refine JE_then_ret ?_
                    refine JE_nextS_ret ?_
                    refine JE_block_ret ?_
                    refine JE_then_ret ?_
                    refine JE_ret (vs := [_]) [] Tryz.results55 ⟨rfl, rfl⟩ ?_ ?_
                    · rw [dgC_no (i := i) (by omega) (fun h => by have h1 := h.1; have h2 := h.2; rcases h2 (by omega) with h3 | h3 <;> omega)]; exact ⟨rfl, rfl⟩
                    · exact all_nil
                  · refine JC_drawT mixed 35 [spV 47 [] _, spV 48 [0] _, spV 49 [1] _, spV 50 [2] _, spV 51 [2, 3] _, spV 52 [2] _, spV 53 [2] _, spV 54 [2, 6] _, spV 55 [2, 5, 7] _, spV 56 [2, 8] _, spV 57 [2, 9] _, spV 58 [2, 4, 10] _, spV 59 [2, 11] _, spV 60 [12] _, spV 61 [12, 13] _, spV 62 [12] _, spV 63 [12] _, spV 64 [12, 16] _, spV 65 [12, 15, 17] _, spV 66 [12, 18] _, spV 67 [12, 19] _, spV 68 [12, 14, 20] _, spV 69 [12, 21] _, spV 70 [22] _, spV 71 [22, 23] _, spV 72 [22] _, spV 73 [22] _, spV 74 [22, 26] _, spV 75 [22, 25, 27] _, spV 76 [22, 28] _, spV 77 [22, 29] _, spV 78 [22, 24, 30] _, spV 79 [12, 22, 31] _, spV 80 [2, 12, 32] _, spV 81 [2, 33] _] ⟨OblS_V (fun vals ex ψ => (by
                        refine JL_move rfl ?_
                        exact JL_nil (JE_stepV rfl ss0))), OblS_V (fun vals ex ψ => (by
                        refine JL_gtr rfl rfl ?_
                        rw [decide_eq_true (p := (0 : Int) < (i : Int)) (by omega)]
                        exact JL_nil (JE_stepV rfl ss0))), OblS_V (fun vals ex ψ => (by
                        refine JL_move rfl ?_
                        exact JL_nil (JE_stepV rfl ss0))), OblS_V (fun vals ex ψ => (by
                        refine JL_normQ _ (_ :: ψ) rfl rfl ?_
                        refine JL_guard_yes rfl rfl ?_
                        refine JL_fieldAddr fo53_0 rfl ?_
                        exact JL_nil (JE_stepV rfl ss0))), OblS_V (fun vals ex ψ => (by
                        refine JL_normQ _ (_ :: ψ) rfl rfl ?_
                        refine JL_guard_yes rfl rfl ?_
                        refine JL_load 0 ty3 rfl rfl rfl ?_
                        exact JL_nil (JE_stepV rfl ss0))), OblS_V (fun vals ex ψ => (by
                        refine JL_guard_yes rfl rfl ?_
                        refine JL_move rfl ?_
                        exact JL_nil (JE_stepV rfl ss0))), OblS_V (fun vals ex ψ => (by
                        refine JL_guard_yes rfl rfl ?_
                        refine JL_move rfl ?_
                        exact JL_nil (JE_stepV rfl ss0))), OblS_V (fun vals ex ψ => (by
                        refine JL_guard_yes rfl rfl ?_
                        refine JL_sub_to rfl rfl (IntWalk.i64_in _ (by omega)) ?_
                        exact JL_nil (JE_stepV rfl ss0))), OblS_V (fun vals ex ψ => (by
                        refine JL_normQ _ (_ :: ψ) rfl rfl ?_
                        refine JL_guard_yes rfl rfl ?_
                        refine JL_indexAddr (i - 1) sl22 rfl rfl (by omega) (by omega) (by first | exact Reads.view (by repeat (first | with_reducible exact mm0 | refine mmS ?_))) (by rw [pcells_length]; omega) ?_
                        exact JL_nil (JE_stepV rfl ss0))), OblS_V (fun vals ex ψ => (by
                        refine JL_normQ _ (_ :: ψ) rfl rfl ?_
                        refine JL_guard_yes rfl rfl ?_
                        refine JL_fieldAddrE fo53_0 rfl (by first | exact Reads.view (by repeat (first | with_reducible exact mm0 | refine mmS ?_))) (by rw [pcells_length]; omega) ?_
                        exact JL_nil (JE_stepV rfl ss0))), OblS_V (fun vals ex ψ => (by
                        refine JL_normQ _ (_ :: ψ) rfl rfl ?_
                        refine JL_guard_yes rfl rfl ?_
                        refine JL_loadE ty3 rfl (by first | exact Reads.view (by repeat (first | with_reducible exact mm0 | refine mmS ?_))) (pcells_one (by omega)).1 ?_
                        exact JL_nil (JE_stepV rfl ss0))), OblS_V (fun vals ex ψ => (by
                        refine JL_guard_yes rfl rfl ?_
                        refine JL_lss rfl rfl ?_
                        rw [decide_eq_false (p := (l.getD i dP).1 < (l.getD (i - 1) dP).1) (by omega)]
                        exact JL_nil (JE_stepV rfl ss0))), OblS_V (fun vals ex ψ => (by
                        refine JL_guard_yes rfl rfl ?_
                        refine JL_move rfl ?_
                        exact JL_nil (JE_stepV rfl ss0))), OblS_V (fun vals ex ψ => (by
                        refine JL_normQ _ (_ :: ψ) rfl rfl ?_
                        refine JL_guard_yes rfl rfl ?_
                        refine JL_fieldAddr fo53_0 rfl ?_
                        exact JL_nil (JE_stepV rfl ss0))), OblS_V (fun vals ex ψ => (by
                        refine JL_normQ _ (_ :: ψ) rfl rfl ?_
                        refine JL_guard_yes rfl rfl ?_
                        refine JL_load 0 ty3 rfl rfl rfl ?_
                        exact JL_nil (JE_stepV rfl ss0))), OblS_V (fun vals ex ψ => (by
                        refine JL_guard_yes rfl rfl ?_
                        refine JL_move rfl ?_
                        exact JL_nil (JE_stepV rfl ss0))), OblS_V (fun vals ex ψ => (by
                        refine JL_guard_yes rfl rfl ?_
                        refine JL_move rfl ?_
                        exact JL_nil (JE_stepV rfl ss0))), OblS_V (fun vals ex ψ => (by
                        refine JL_guard_yes rfl rfl ?_
                        refine JL_sub_to rfl rfl (IntWalk.i64_in _ (by omega)) ?_
                        exact JL_nil (JE_stepV rfl ss0))), OblS_V (fun vals ex ψ => (by
                        refine JL_normQ _ (_ :: ψ) rfl rfl ?_
                        refine JL_guard_yes rfl rfl ?_
                        refine JL_indexAddr (i - 1) sl22 rfl rfl (by omega) (by omega) (by first | exact Reads.view (by repeat (first | with_reducible exact mm0 | refine mmS ?_))) (by rw [pcells_length]; omega) ?_
                        exact JL_nil (JE_stepV rfl ss0))), OblS_V (fun vals ex ψ => (by
                        refine JL_normQ _ (_ :: ψ) rfl rfl ?_
                        refine JL_guard_yes rfl rfl ?_
                        refine JL_fieldAddrE fo53_0 rfl (by first | exact Reads.view (by repeat (first | with_reducible exact mm0 | refine mmS ?_))) (by rw [pcells_length]; omega) ?_
                        exact JL_nil (JE_stepV rfl ss0))), OblS_V (fun vals ex ψ => (by
                        refine JL_normQ _ (_ :: ψ) rfl rfl ?_
                        refine JL_guard_yes rfl rfl ?_
                        refine JL_loadE ty3 rfl (by first | exact Reads.view (by repeat (first | with_reducible exact mm0 | refine mmS ?_))) (pcells_one (by omega)).1 ?_
                        exact JL_nil (JE_stepV rfl ss0))), OblS_V (fun vals ex ψ => (by
                        refine JL_guard_yes rfl rfl ?_
                        refine JL_eql rfl rfl ?_
                        rw [decide_eq_true (p := (l.getD i dP).1 = (l.getD (i - 1) dP).1) (by omega)]
                        exact JL_nil (JE_stepV rfl ss0))), OblS_V (fun vals ex ψ => (by
                        refine JL_guard_yes rfl rfl ?_
                        refine JL_move rfl ?_
                        exact JL_nil (JE_stepV rfl ss0))), OblS_V (fun vals ex ψ => (by
                        refine JL_normQ _ (_ :: ψ) rfl rfl ?_
                        refine JL_guard_yes rfl rfl ?_
                        refine JL_fieldAddr fo53_1 rfl ?_
                        exact JL_nil (JE_stepV rfl ss0))), OblS_V (fun vals ex ψ => (by
                        refine JL_normQ _ (_ :: ψ) rfl rfl ?_
                        refine JL_guard_yes rfl rfl ?_
                        refine JL_load 0 ty3 rfl rfl rfl ?_
                        exact JL_nil (JE_stepV rfl ss0))), OblS_V (fun vals ex ψ => (by
                        refine JL_guard_yes rfl rfl ?_
                        refine JL_move rfl ?_
                        exact JL_nil (JE_stepV rfl ss0))), OblS_V (fun vals ex ψ => (by
                        refine JL_guard_yes rfl rfl ?_
                        refine JL_move rfl ?_
                        exact JL_nil (JE_stepV rfl ss0))), OblS_V (fun vals ex ψ => (by
                        refine JL_guard_yes rfl rfl ?_
                        refine JL_sub_to rfl rfl (IntWalk.i64_in _ (by omega)) ?_
                        exact JL_nil (JE_stepV rfl ss0))), OblS_V (fun vals ex ψ => (by
                        refine JL_normQ _ (_ :: ψ) rfl rfl ?_
                        refine JL_guard_yes rfl rfl ?_
                        refine JL_indexAddr (i - 1) sl22 rfl rfl (by omega) (by omega) (by first | exact Reads.view (by repeat (first | with_reducible exact mm0 | refine mmS ?_))) (by rw [pcells_length]; omega) ?_
                        exact JL_nil (JE_stepV rfl ss0))), OblS_V (fun vals ex ψ => (by
                        refine JL_normQ _ (_ :: ψ) rfl rfl ?_
                        refine JL_guard_yes rfl rfl ?_
                        refine JL_fieldAddrE fo53_1 rfl (by first | exact Reads.view (by repeat (first | with_reducible exact mm0 | refine mmS ?_))) (by rw [pcells_length]; omega) ?_
                        exact JL_nil (JE_stepV rfl ss0))), OblS_V (fun vals ex ψ => (by
                        refine JL_normQ _ (_ :: ψ) rfl rfl ?_
                        refine JL_guard_yes rfl rfl ?_
                        refine JL_loadE ty3 rfl (by first | exact Reads.view (by repeat (first | with_reducible exact mm0 | refine mmS ?_))) (pcells_one (by omega)).2 ?_
                        exact JL_nil (JE_stepV rfl ss0))), OblS_V (fun vals ex ψ => (by
                        refine JL_guard_yes rfl rfl ?_
                        refine JL_leq rfl rfl ?_
                        rw [decide_eq_false (p := (l.getD i dP).2 ≤ (l.getD (i - 1) dP).2) (by omega)]
                        exact JL_nil (JE_stepV rfl ss0))), OblS_V (fun vals ex ψ => (by
                        refine JL_guard_yes rfl rfl ?_
                        refine JL_pick_t rfl rfl ?_
                        exact JL_nil (JE_stepV rfl ss0))), OblS_V (fun vals ex ψ => (by
                        refine JL_guard_yes rfl rfl ?_
                        refine JL_pick_f rfl rfl ?_
                        exact JL_nil (JE_stepV rfl ss0))), OblS_V (fun vals ex ψ => (by
                        refine JL_pick_t rfl rfl ?_
                        exact JL_nil (JE_stepV rfl ss0))), trivial⟩ (by kernel_rfl) (fun vals bs => ?_)
                    refine JL_normL [] ⟨83, [(47, _), (48, _), (49, _), (50, _), (51, _), (52, _), (53, _), (54, _), (55, _), (56, _), (57, _), (58, _), (59, _), (60, _), (61, _), (62, _), (63, _), (64, _), (65, _), (66, _), (67, _), (68, _), (69, _), (70, _), (71, _), (72, _), (73, _), (74, _), (75, _), (76, _), (77, _), (78, _), (79, _), (80, _), (81, _)], _⟩ [box _ _ [_, _]] [_] rfl rfl rfl rfl ?_
                    refine JL_done_up 83 [box _ _ [_, _]] [_] rfl rfl (by simp only [nrmF]; rfl) rfl rfl ?_
                    refine JC_false rfl ?_
                    refine JC_skip ?_
                    refine JE_block_normal ?_
                    refine JE_then ?_
                    refine JC_region ?_
                    refine JL_add_to rfl rfl (IntWalk.i64_in _ (by omega)) ?_
                    refine JL_move rfl ?_
                    refine JL_nil_up 83 [box _ _ [_, _]] [_] rfl rfl (by simp only [nrmF]; rfl) rfl rfl ?_
                    refine JE_dropAt 0 ?_
                    refine JE_norm _ [] [_] rfl rfl rfl ?_
                    refine JE_nextS (i + 1) (by kernel_rfl) ?_ ?_ (by kernel_rfl) ?_
                    · exact ⟨by omega, arcNext hj ⟨⟨⟨by omega, by omega⟩, ⟨by omega, by omega⟩, by omega⟩, fun h0 => .inr ⟨by omega, by omega⟩⟩⟩
                    · first | omega | (dsimp only; omega)
                    · exact subset_app subset_nil ss0
      · refine JL_done_up 83 [] [_] rfl rfl (by simp only [nrmF]; rfl) rfl rfl ?_
        refine JC_seq ?_
        refine JC_false rfl ?_
        refine JC_exit ?_
        refine JE_then_exit ?_
        refine JE_nextS_exit ?_
        refine JE_block_exit ?_
        refine JE_then ?_
        refine JC_seq ?_
        refine JC_region ?_
        refine JL_assign rfl ?_
        refine JL_done_up 83 [] [_] rfl rfl (by simp only [nrmF]; rfl) rfl rfl ?_
        refine JC_ret ?_
        refine JE_ret (vs := [_]) [] Tryz.results55 ⟨rfl, rfl⟩ ?_ ?_
        · rw [dgC_yes (by omega) (by omega) (fun j h => hj j (by omega))]; exact ⟨rfl, rfl⟩
        · exact all_nil

set_option maxHeartbeats 2000000 in
set_option maxRecDepth 20000 in
theorem bdg_con {ad : Option Addr} {c : Nat} {l : List Pr} {n : Int} (hln : l.length ≤ 1000000) :
    ConF Tryz.prog 80 [.int .i64 n, .slice ad l.length c] [vCells ad (pcells l)]
      (fun v φo => v = .bool (decide (dgC n l)) ∧ φo = []) := by
  refine ConF_of Tryz.func80 rfl 115 _ rfl rfl ?_
  intro w0
  refine JC_norm ⟨115, [], [_, _, _, _, _, _, _, _, _, _, _, _, _, _, _, _, _, _, _, _, _, _, _, _, _, _, _, _, _, _, _, _, _, _, _, _, _, _, _, _, _, _, _, _, _, _, _, _, _, _, _, _, _, _, _, _, _, _, _, _, _, _, _, _, _, _, _, _, _, _, _, _, _, _, _, _, _, _, _, _, _, _, _, _, _, _, _, _, _, _, _, _, _, _, _, _, _, _, _, _, _, _, _, _, _, _, _, _, _, _, _, _, _, _, _]⟩ [] [_] rfl rfl rfl ?_
  refine JC_seq ?_
  refine JC_region ?_
  refine JL_assign rfl ?_
  refine JL_done_up 115 [] [_] rfl rfl (by simp only [nrmF]; rfl) rfl rfl ?_
  refine JC_seq ?_
  refine JC_seq ?_
  refine JC_region ?_
  refine JL_move rfl ?_
  refine JL_lss rfl rfl ?_
  refine JL_split (fun h7 => ?_) (fun h7 => ?_)
  · refine JL_move rfl ?_
    refine JL_guard_no rfl rfl ?_
    refine JL_guard_no rfl rfl ?_
    refine JL_pick_t rfl rfl ?_
    refine JL_move rfl ?_
    refine JL_guard_no rfl rfl ?_
    refine JL_guard_no rfl rfl ?_
    refine JL_guard_no rfl rfl ?_
    refine JL_guard_no rfl rfl ?_
    refine JL_guard_no rfl rfl ?_
    refine JL_guard_no rfl rfl ?_
    refine JL_pick_t rfl rfl ?_
    refine JL_done_up 115 [] [_] rfl rfl (by simp only [nrmF]; rfl) rfl rfl ?_
    refine JC_true rfl ?_
    refine JC_seq ?_
    refine JC_region ?_
    refine JL_assign rfl ?_
    refine JL_done_up 115 [] [_] rfl rfl (by simp only [nrmF]; rfl) rfl rfl ?_
    refine JC_ret ?_
    refine JE_then_ret ?_
    refine JE_ret (vs := [_]) [] Tryz.results80 ⟨rfl, rfl⟩ ?_ ?_
    · rw [dgC_out (by omega)]; exact ⟨rfl, rfl⟩
    · exact all_nil
  · refine JL_move rfl ?_
    refine JL_guard_yes rfl rfl ?_
    refine JL_move rfl ?_
    refine JL_guard_yes rfl rfl ?_
    refine JL_gtr rfl rfl ?_
    refine JL_split (fun h10 => ?_) (fun h10 => ?_)
    · refine JL_pick_f rfl rfl ?_
      refine JL_move rfl ?_
      refine JL_guard_no rfl rfl ?_
      refine JL_guard_no rfl rfl ?_
      refine JL_guard_no rfl rfl ?_
      refine JL_guard_no rfl rfl ?_
      refine JL_guard_no rfl rfl ?_
      refine JL_guard_no rfl rfl ?_
      refine JL_pick_t rfl rfl ?_
      refine JL_done_up 115 [] [_] rfl rfl (by simp only [nrmF]; rfl) rfl rfl ?_
      refine JC_true rfl ?_
      refine JC_seq ?_
      refine JC_region ?_
      refine JL_assign rfl ?_
      refine JL_done_up 115 [] [_] rfl rfl (by simp only [nrmF]; rfl) rfl rfl ?_
      refine JC_ret ?_
      refine JE_then_ret ?_
      refine JE_ret (vs := [_]) [] Tryz.results80 ⟨rfl, rfl⟩ ?_ ?_
      · rw [dgC_out (by omega)]; exact ⟨rfl, rfl⟩
      · exact all_nil
    · refine JL_pick_f rfl rfl ?_
      refine JL_move rfl ?_
      refine JL_guard_yes rfl rfl ?_
      refine JL_move rfl ?_
      refine JL_guard_yes rfl rfl ?_
      refine JL_len sl22 rfl ?_
      refine JL_guard_yes rfl rfl ?_
      refine JL_move rfl ?_
      refine JL_guard_yes rfl rfl ?_
      refine JL_move rfl ?_
      refine JL_guard_yes rfl rfl ?_
      refine JL_mul_to rfl rfl (IntWalk.i64_in _ (by first | omega | (have hn9 : 0 ≤ n ∧ n ≤ 24 := ⟨by omega, by omega⟩; have := Int.mul_le_mul hn9.2 hn9.2 hn9.1 (by decide); have := Int.mul_nonneg hn9.1 hn9.1; omega))) ?_
      refine JL_guard_yes rfl rfl ?_
      refine JL_gtr rfl rfl ?_
      refine JL_split (fun h18 => ?_) (fun h18 => ?_)
      · refine JL_pick_f rfl rfl ?_
        refine JL_done_up 115 [] [_] rfl rfl (by simp only [nrmF]; rfl) rfl rfl ?_
        refine JC_true rfl ?_
        refine JC_seq ?_
        refine JC_region ?_
        refine JL_assign rfl ?_
        refine JL_done_up 115 [] [_] rfl rfl (by simp only [nrmF]; rfl) rfl rfl ?_
        refine JC_ret ?_
        refine JE_then_ret ?_
        refine JE_ret (vs := [_]) [] Tryz.results80 ⟨rfl, rfl⟩ ?_ ?_
        · rw [decide_eq_false (p := dgC n l) (fun h => by have := h.short; omega)]; exact ⟨rfl, rfl⟩
        · exact all_nil
      · refine JL_pick_f rfl rfl ?_
        refine JL_done_up 115 [] [_] rfl rfl (by simp only [nrmF]; rfl) rfl rfl ?_
        refine JC_false rfl ?_
        refine JC_skip ?_
        refine JE_then ?_
        refine JC_seq ?_
        refine JC_seq ?_
        refine JC_region ?_
        refine JL_assign rfl ?_
        refine JL_done_up 115 [] [_] rfl rfl (by simp only [nrmF]; rfl) rfl rfl ?_
        refine JC_block ?_
        refine JC_loopS ((Nat)) (fun (i : Nat) => i ≤ l.length ∧ ∀ j, j < i → arcAt n l j) (fun (i : Nat) => l.length - i) (fun u (i : Nat) => [none, none, none, none, some (u 4), some (.int .i64 (i : Nat)), none, none, none, none, none, none, none, none, none, none, none, none, none, none, some (u 20), some (u 21), some (u 22), some (u 23), some (u 24), some (u 25), some (u 26), some (u 27), some (u 28), some (u 29), some (u 30), some (u 31), some (u 32), some (u 33), some (u 34), some (u 35), some (u 36), some (u 37), some (u 38), some (u 39), some (u 40), some (u 41), some (u 42), some (u 43), some (u 44), some (u 45), some (u 46), some (u 47), some (u 48), some (u 49), some (u 50), some (u 51), some (u 52), some (u 53), some (u 54), some (u 55), some (u 56), some (u 57), some (u 58), some (u 59), some (u 60), some (u 61), some (u 62), some (u 63), some (u 64), some (u 65), some (u 66), some (u 67), some (u 68), some (u 69), some (u 70), some (u 71), some (u 72), some (u 73), some (u 74), some (u 75), some (u 76), some (u 77), some (u 78), some (u 79), some (u 80), some (u 81), some (u 82), some (u 83), some (u 84), some (u 85), some (u 86), some (u 87), some (u 88), some (u 89), some (u 90), some (u 91), some (u 92), some (u 93), some (u 94), some (u 95), some (u 96), some (u 97), some (u 98), some (u 99), some (u 100), some (u 101), some (u 102), some (u 103), some (u 104), some (u 105), some (u 106), some (u 107), some (u 108), some (u 109), some (u 110), some (u 111), some (u 112), some (u 113), some (u 114)]) (fun (i : Nat) => []) (fun (i : Nat) => []) (0) (by kernel_rfl) ?_ (by kernel_rfl) ?_ ?_
        · exact ⟨Nat.zero_le _, fun j hj => absurd hj (Nat.not_lt_zero _)⟩
        · exact subset_nil
        intro u i hC
        obtain ⟨hi, hj⟩ := hC
        refine JC_norm ⟨115, [], [_, _, _, _, _, _, _, _, _, _, _, _, _, _, _, _, _, _, _, _, _, _, _, _, _, _, _, _, _, _, _, _, _, _, _, _, _, _, _, _, _, _, _, _, _, _, _, _, _, _, _, _, _, _, _, _, _, _, _, _, _, _, _, _, _, _, _, _, _, _, _, _, _, _, _, _, _, _, _, _, _, _, _, _, _, _, _, _, _, _, _, _, _, _, _, _, _, _, _, _, _, _, _, _, _, _, _, _, _, _, _, _, _, _, _]⟩ [] [_] rfl rfl rfl ?_
        refine JC_seq ?_
        refine JC_seq ?_
        refine JC_region ?_
        refine JL_move rfl ?_
        refine JL_move rfl ?_
        refine JL_len sl22 rfl ?_
        refine JL_lss rfl rfl ?_
        refine JL_split (fun h23 => ?_) (fun h23 => ?_)
        · refine JL_done_up 115 [] [_] rfl rfl (by simp only [nrmF]; rfl) rfl rfl ?_
          refine JC_true rfl ?_
          refine JC_skip ?_
          refine JE_then ?_
          refine JC_seq ?_
          refine JC_block ?_
          refine JC_seq ?_
          refine JC_seq ?_
          rcases arc_end n l i with hE | hE | hE | hE | hE | hE
          · refine JC_drawT mixed 45 [spV 26 [] _, spV 27 [] _, spV 28 [0, 1] _, spV 29 [2] _, spV 30 [3] _, spV 31 [4] _, spV 32 [5] _, spV 33 [6] _, spV 34 [6] _, spV 35 [6, 7, 8] _, spV 36 [6, 9] _, spV 37 [6, 10] _, spV 38 [6] _, spV 39 [6, 11, 12] _, spV 40 [6, 13] _, spV 41 [14] _, spV 42 [15] _, spV 43 [15] _, spV 44 [15, 16, 17] _, spV 45 [15, 18] _, spV 46 [15, 19] _, spV 47 [15, 20] _, spV 48 [15, 21] _, spV 49 [22] _, spV 50 [23] _, spV 51 [23] _, spV 52 [23, 24, 25] _, spV 53 [23, 26] _, spV 54 [23, 27] _, spV 55 [23] _, spV 56 [23, 28, 29] _, spV 57 [23, 30] _, spV 58 [31] _, spV 59 [32] _, spV 60 [32] _, spV 61 [32, 33, 34] _, spV 62 [32, 35] _, spV 63 [32, 36] _, spV 64 [32] _, spV 65 [32] _, spV 66 [32, 38, 39] _, spV 67 [32, 40] _, spV 68 [32, 41] _, spV 69 [32, 37, 42] _, spV 70 [32, 43] _] ⟨OblS_V (fun vals ex ψ => (by
                refine JL_move rfl ?_
                exact JL_nil (JE_stepV rfl ss0))), OblS_V (fun vals ex ψ => (by
                refine JL_move rfl ?_
                exact JL_nil (JE_stepV rfl ss0))), OblS_V (fun vals ex ψ => (by
                refine JL_normQ _ (_ :: ψ) rfl rfl ?_
                refine JL_indexAddr i sl22 rfl rfl rfl (by omega) (by first | exact Reads.view (by repeat (first | with_reducible exact mm0 | refine mmS ?_))) (by rw [pcells_length]; omega) ?_
                exact JL_nil (JE_stepV rfl ss0))), OblS_V (fun vals ex ψ => (by
                refine JL_normQ _ (_ :: ψ) rfl rfl ?_
                refine JL_fieldAddrE fo53_0 rfl (by first | exact Reads.view (by repeat (first | with_reducible exact mm0 | refine mmS ?_))) (by rw [pcells_length]; omega) ?_
                exact JL_nil (JE_stepV rfl ss0))), OblS_V (fun vals ex ψ => (by
                refine JL_normQ _ (_ :: ψ) rfl rfl ?_
                refine JL_loadE ty3 rfl (by first | exact Reads.view (by repeat (first | with_reducible exact mm0 | refine mmS ?_))) (pcells_one (by omega)).1 ?_
                exact JL_nil (JE_stepV rfl ss0))), OblS_V (fun vals ex ψ => (by
                refine JL_lss rfl rfl ?_
                rw [decide_eq_true (p := (l.getD i dP).1 < 0) (by omega)]
                exact JL_nil (JE_stepV rfl ss0))), OblS_V (fun vals ex ψ => (by
                refine JL_move rfl ?_
                exact JL_nil (JE_stepV rfl ss0))), OblS_V (fun vals ex ψ => (by
                refine JL_guard_no rfl rfl ?_
                exact JL_nil (JE_stepV rfl ss0))), OblS_V (fun vals ex ψ => (by
                refine JL_guard_no rfl rfl ?_
                exact JL_nil (JE_stepV rfl ss0))), OblS_V (fun vals ex ψ => (by
                refine JL_guard_no rfl rfl ?_
                exact JL_nil (JE_stepV rfl ss0))), OblS_V (fun vals ex ψ => (by
                refine JL_guard_no rfl rfl ?_
                exact JL_nil (JE_stepV rfl ss0))), OblS_V (fun vals ex ψ => (by
                refine JL_guard_no rfl rfl ?_
                exact JL_nil (JE_stepV rfl ss0))), OblS_V (fun vals ex ψ => (by
                refine JL_guard_no rfl rfl ?_
                exact JL_nil (JE_stepV rfl ss0))), OblS_V (fun vals ex ψ => (by
                refine JL_guard_no rfl rfl ?_
                exact JL_nil (JE_stepV rfl ss0))), OblS_V (fun vals ex ψ => (by
                refine JL_pick_t rfl rfl ?_
                exact JL_nil (JE_stepV rfl ss0))), OblS_V (fun vals ex ψ => (by
                refine JL_move rfl ?_
                exact JL_nil (JE_stepV rfl ss0))), OblS_V (fun vals ex ψ => (by
                refine JL_guard_no rfl rfl ?_
                exact JL_nil (JE_stepV rfl ss0))), OblS_V (fun vals ex ψ => (by
                refine JL_guard_no rfl rfl ?_
                exact JL_nil (JE_stepV rfl ss0))), OblS_V (fun vals ex ψ => (by
                refine JL_guard_no rfl rfl ?_
                exact JL_nil (JE_stepV rfl ss0))), OblS_V (fun vals ex ψ => (by
                refine JL_guard_no rfl rfl ?_
                exact JL_nil (JE_stepV rfl ss0))), OblS_V (fun vals ex ψ => (by
                refine JL_guard_no rfl rfl ?_
                exact JL_nil (JE_stepV rfl ss0))), OblS_V (fun vals ex ψ => (by
                refine JL_guard_no rfl rfl ?_
                exact JL_nil (JE_stepV rfl ss0))), OblS_V (fun vals ex ψ => (by
                refine JL_pick_t rfl rfl ?_
                exact JL_nil (JE_stepV rfl ss0))), OblS_V (fun vals ex ψ => (by
                refine JL_move rfl ?_
                exact JL_nil (JE_stepV rfl ss0))), OblS_V (fun vals ex ψ => (by
                refine JL_guard_no rfl rfl ?_
                exact JL_nil (JE_stepV rfl ss0))), OblS_V (fun vals ex ψ => (by
                refine JL_guard_no rfl rfl ?_
                exact JL_nil (JE_stepV rfl ss0))), OblS_V (fun vals ex ψ => (by
                refine JL_guard_no rfl rfl ?_
                exact JL_nil (JE_stepV rfl ss0))), OblS_V (fun vals ex ψ => (by
                refine JL_guard_no rfl rfl ?_
                exact JL_nil (JE_stepV rfl ss0))), OblS_V (fun vals ex ψ => (by
                refine JL_guard_no rfl rfl ?_
                exact JL_nil (JE_stepV rfl ss0))), OblS_V (fun vals ex ψ => (by
                refine JL_guard_no rfl rfl ?_
                exact JL_nil (JE_stepV rfl ss0))), OblS_V (fun vals ex ψ => (by
                refine JL_guard_no rfl rfl ?_
                exact JL_nil (JE_stepV rfl ss0))), OblS_V (fun vals ex ψ => (by
                refine JL_pick_t rfl rfl ?_
                exact JL_nil (JE_stepV rfl ss0))), OblS_V (fun vals ex ψ => (by
                refine JL_move rfl ?_
                exact JL_nil (JE_stepV rfl ss0))), OblS_V (fun vals ex ψ => (by
                refine JL_guard_no rfl rfl ?_
                exact JL_nil (JE_stepV rfl ss0))), OblS_V (fun vals ex ψ => (by
                refine JL_guard_no rfl rfl ?_
                exact JL_nil (JE_stepV rfl ss0))), OblS_V (fun vals ex ψ => (by
                refine JL_guard_no rfl rfl ?_
                exact JL_nil (JE_stepV rfl ss0))), OblS_V (fun vals ex ψ => (by
                refine JL_guard_no rfl rfl ?_
                exact JL_nil (JE_stepV rfl ss0))), OblS_V (fun vals ex ψ => (by
                refine JL_guard_no rfl rfl ?_
                exact JL_nil (JE_stepV rfl ss0))), OblS_V (fun vals ex ψ => (by
                refine JL_guard_no rfl rfl ?_
                exact JL_nil (JE_stepV rfl ss0))), OblS_V (fun vals ex ψ => (by
                refine JL_guard_no rfl rfl ?_
                exact JL_nil (JE_stepV rfl ss0))), OblS_V (fun vals ex ψ => (by
                refine JL_guard_no rfl rfl ?_
                exact JL_nil (JE_stepV rfl ss0))), OblS_V (fun vals ex ψ => (by
                refine JL_guard_no rfl rfl ?_
                exact JL_nil (JE_stepV rfl ss0))), OblS_V (fun vals ex ψ => (by
                refine JL_guard_no rfl rfl ?_
                exact JL_nil (JE_stepV rfl ss0))), OblS_V (fun vals ex ψ => (by
                refine JL_guard_no rfl rfl ?_
                exact JL_nil (JE_stepV rfl ss0))), OblS_V (fun vals ex ψ => (by
                refine JL_pick_t rfl rfl ?_
                exact JL_nil (JE_stepV rfl ss0))), trivial⟩ (by kernel_rfl) (fun vals bs => ?_)
            refine JL_normL [] ⟨115, [(26, _), (27, _), (28, _), (29, _), (30, _), (31, _), (32, _), (33, _), (34, _), (35, _), (36, _), (37, _), (38, _), (39, _), (40, _), (41, _), (42, _), (43, _), (44, _), (45, _), (46, _), (47, _), (48, _), (49, _), (50, _), (51, _), (52, _), (53, _), (54, _), (55, _), (56, _), (57, _), (58, _), (59, _), (60, _), (61, _), (62, _), (63, _), (64, _), (65, _), (66, _), (67, _), (68, _), (69, _), (70, _)], _⟩ [] [_] rfl rfl rfl rfl ?_
            refine JL_done_up 115 [] [_] rfl rfl (by simp only [nrmF]; rfl) rfl rfl ?_
            refine JC_true rfl ?_
            refine JC_seq ?_
            refine JC_region ?_
            refine JL_assign rfl ?_
            refine JL_done_up 115 [] [_] rfl rfl (by simp only [nrmF]; rfl) rfl rfl ?_
            refine JC_ret ?_
            refine JE_then_ret ?_
            refine JE_block_ret ?_
            refine JE_then_ret ?_
            refine JE_nextS_ret ?_
            refine JE_block_ret ?_
            refine JE_then_ret ?_
            refine JE_ret (vs := [_]) [] Tryz.results80 ⟨rfl, rfl⟩ ?_ ?_
            · rw [dgC_no (i := i) (by omega) (fun h => by have h1 := h.1; have h2 := h.2; omega)]; exact ⟨rfl, rfl⟩
            · exact all_nil
          · refine JC_drawT mixed 45 [spV 26 [] _, spV 27 [] _, spV 28 [0, 1] _, spV 29 [2] _, spV 30 [3] _, spV 31 [4] _, spV 32 [5] _, spV 33 [6] _, spV 34 [6] _, spV 35 [6, 7, 8] _, spV 36 [6, 9] _, spV 37 [6, 10] _, spV 38 [6] _, spV 39 [6, 11, 12] _, spV 40 [6, 13] _, spV 41 [14] _, spV 42 [15] _, spV 43 [15] _, spV 44 [15, 16, 17] _, spV 45 [15, 18] _, spV 46 [15, 19] _, spV 47 [15, 20] _, spV 48 [15, 21] _, spV 49 [22] _, spV 50 [23] _, spV 51 [23] _, spV 52 [23, 24, 25] _, spV 53 [23, 26] _, spV 54 [23, 27] _, spV 55 [23] _, spV 56 [23, 28, 29] _, spV 57 [23, 30] _, spV 58 [31] _, spV 59 [32] _, spV 60 [32] _, spV 61 [32, 33, 34] _, spV 62 [32, 35] _, spV 63 [32, 36] _, spV 64 [32] _, spV 65 [32] _, spV 66 [32, 38, 39] _, spV 67 [32, 40] _, spV 68 [32, 41] _, spV 69 [32, 37, 42] _, spV 70 [32, 43] _] ⟨OblS_V (fun vals ex ψ => (by
                refine JL_move rfl ?_
                exact JL_nil (JE_stepV rfl ss0))), OblS_V (fun vals ex ψ => (by
                refine JL_move rfl ?_
                exact JL_nil (JE_stepV rfl ss0))), OblS_V (fun vals ex ψ => (by
                refine JL_normQ _ (_ :: ψ) rfl rfl ?_
                refine JL_indexAddr i sl22 rfl rfl rfl (by omega) (by first | exact Reads.view (by repeat (first | with_reducible exact mm0 | refine mmS ?_))) (by rw [pcells_length]; omega) ?_
                exact JL_nil (JE_stepV rfl ss0))), OblS_V (fun vals ex ψ => (by
                refine JL_normQ _ (_ :: ψ) rfl rfl ?_
                refine JL_fieldAddrE fo53_0 rfl (by first | exact Reads.view (by repeat (first | with_reducible exact mm0 | refine mmS ?_))) (by rw [pcells_length]; omega) ?_
                exact JL_nil (JE_stepV rfl ss0))), OblS_V (fun vals ex ψ => (by
                refine JL_normQ _ (_ :: ψ) rfl rfl ?_
                refine JL_loadE ty3 rfl (by first | exact Reads.view (by repeat (first | with_reducible exact mm0 | refine mmS ?_))) (pcells_one (by omega)).1 ?_
                exact JL_nil (JE_stepV rfl ss0))), OblS_V (fun vals ex ψ => (by
                refine JL_lss rfl rfl ?_
                rw [decide_eq_false (p := (l.getD i dP).1 < 0) (by omega)]
                exact JL_nil (JE_stepV rfl ss0))), OblS_V (fun vals ex ψ => (by
                refine JL_move rfl ?_
                exact JL_nil (JE_stepV rfl ss0))), OblS_V (fun vals ex ψ => (by
                refine JL_guard_yes rfl rfl ?_
                refine JL_move rfl ?_
                exact JL_nil (JE_stepV rfl ss0))), OblS_V (fun vals ex ψ => (by
                refine JL_guard_yes rfl rfl ?_
                refine JL_move rfl ?_
                exact JL_nil (JE_stepV rfl ss0))), OblS_V (fun vals ex ψ => (by
                refine JL_normQ _ (_ :: ψ) rfl rfl ?_
                refine JL_guard_yes rfl rfl ?_
                refine JL_indexAddr i sl22 rfl rfl rfl (by omega) (by first | exact Reads.view (by repeat (first | with_reducible exact mm0 | refine mmS ?_))) (by rw [pcells_length]; omega) ?_
                exact JL_nil (JE_stepV rfl ss0))), OblS_V (fun vals ex ψ => (by
                refine JL_normQ _ (_ :: ψ) rfl rfl ?_
                refine JL_guard_yes rfl rfl ?_
                refine JL_fieldAddrE fo53_0 rfl (by first | exact Reads.view (by repeat (first | with_reducible exact mm0 | refine mmS ?_))) (by rw [pcells_length]; omega) ?_
                exact JL_nil (JE_stepV rfl ss0))), OblS_V (fun vals ex ψ => (by
                refine JL_normQ _ (_ :: ψ) rfl rfl ?_
                refine JL_guard_yes rfl rfl ?_
                refine JL_loadE ty3 rfl (by first | exact Reads.view (by repeat (first | with_reducible exact mm0 | refine mmS ?_))) (pcells_one (by omega)).1 ?_
                exact JL_nil (JE_stepV rfl ss0))), OblS_V (fun vals ex ψ => (by
                refine JL_guard_yes rfl rfl ?_
                refine JL_move rfl ?_
                exact JL_nil (JE_stepV rfl ss0))), OblS_V (fun vals ex ψ => (by
                refine JL_guard_yes rfl rfl ?_
                refine JL_geq rfl rfl ?_
                rw [decide_eq_true (p := n ≤ (l.getD i dP).1) (by omega)]
                exact JL_nil (JE_stepV rfl ss0))), OblS_V (fun vals ex ψ => (by
                refine JL_pick_f rfl rfl ?_
                exact JL_nil (JE_stepV rfl ss0))), OblS_V (fun vals ex ψ => (by
                refine JL_move rfl ?_
                exact JL_nil (JE_stepV rfl ss0))), OblS_V (fun vals ex ψ => (by
                refine JL_guard_no rfl rfl ?_
                exact JL_nil (JE_stepV rfl ss0))), OblS_V (fun vals ex ψ => (by
                refine JL_guard_no rfl rfl ?_
                exact JL_nil (JE_stepV rfl ss0))), OblS_V (fun vals ex ψ => (by
                refine JL_guard_no rfl rfl ?_
                exact JL_nil (JE_stepV rfl ss0))), OblS_V (fun vals ex ψ => (by
                refine JL_guard_no rfl rfl ?_
                exact JL_nil (JE_stepV rfl ss0))), OblS_V (fun vals ex ψ => (by
                refine JL_guard_no rfl rfl ?_
                exact JL_nil (JE_stepV rfl ss0))), OblS_V (fun vals ex ψ => (by
                refine JL_guard_no rfl rfl ?_
                exact JL_nil (JE_stepV rfl ss0))), OblS_V (fun vals ex ψ => (by
                refine JL_pick_t rfl rfl ?_
                exact JL_nil (JE_stepV rfl ss0))), OblS_V (fun vals ex ψ => (by
                refine JL_move rfl ?_
                exact JL_nil (JE_stepV rfl ss0))), OblS_V (fun vals ex ψ => (by
                refine JL_guard_no rfl rfl ?_
                exact JL_nil (JE_stepV rfl ss0))), OblS_V (fun vals ex ψ => (by
                refine JL_guard_no rfl rfl ?_
                exact JL_nil (JE_stepV rfl ss0))), OblS_V (fun vals ex ψ => (by
                refine JL_guard_no rfl rfl ?_
                exact JL_nil (JE_stepV rfl ss0))), OblS_V (fun vals ex ψ => (by
                refine JL_guard_no rfl rfl ?_
                exact JL_nil (JE_stepV rfl ss0))), OblS_V (fun vals ex ψ => (by
                refine JL_guard_no rfl rfl ?_
                exact JL_nil (JE_stepV rfl ss0))), OblS_V (fun vals ex ψ => (by
                refine JL_guard_no rfl rfl ?_
                exact JL_nil (JE_stepV rfl ss0))), OblS_V (fun vals ex ψ => (by
                refine JL_guard_no rfl rfl ?_
                exact JL_nil (JE_stepV rfl ss0))), OblS_V (fun vals ex ψ => (by
                refine JL_pick_t rfl rfl ?_
                exact JL_nil (JE_stepV rfl ss0))), OblS_V (fun vals ex ψ => (by
                refine JL_move rfl ?_
                exact JL_nil (JE_stepV rfl ss0))), OblS_V (fun vals ex ψ => (by
                refine JL_guard_no rfl rfl ?_
                exact JL_nil (JE_stepV rfl ss0))), OblS_V (fun vals ex ψ => (by
                refine JL_guard_no rfl rfl ?_
                exact JL_nil (JE_stepV rfl ss0))), OblS_V (fun vals ex ψ => (by
                refine JL_guard_no rfl rfl ?_
                exact JL_nil (JE_stepV rfl ss0))), OblS_V (fun vals ex ψ => (by
                refine JL_guard_no rfl rfl ?_
                exact JL_nil (JE_stepV rfl ss0))), OblS_V (fun vals ex ψ => (by
                refine JL_guard_no rfl rfl ?_
                exact JL_nil (JE_stepV rfl ss0))), OblS_V (fun vals ex ψ => (by
                refine JL_guard_no rfl rfl ?_
                exact JL_nil (JE_stepV rfl ss0))), OblS_V (fun vals ex ψ => (by
                refine JL_guard_no rfl rfl ?_
                exact JL_nil (JE_stepV rfl ss0))), OblS_V (fun vals ex ψ => (by
                refine JL_guard_no rfl rfl ?_
                exact JL_nil (JE_stepV rfl ss0))), OblS_V (fun vals ex ψ => (by
                refine JL_guard_no rfl rfl ?_
                exact JL_nil (JE_stepV rfl ss0))), OblS_V (fun vals ex ψ => (by
                refine JL_guard_no rfl rfl ?_
                exact JL_nil (JE_stepV rfl ss0))), OblS_V (fun vals ex ψ => (by
                refine JL_guard_no rfl rfl ?_
                exact JL_nil (JE_stepV rfl ss0))), OblS_V (fun vals ex ψ => (by
                refine JL_pick_t rfl rfl ?_
                exact JL_nil (JE_stepV rfl ss0))), trivial⟩ (by kernel_rfl) (fun vals bs => ?_)
            refine JL_normL [] ⟨115, [(26, _), (27, _), (28, _), (29, _), (30, _), (31, _), (32, _), (33, _), (34, _), (35, _), (36, _), (37, _), (38, _), (39, _), (40, _), (41, _), (42, _), (43, _), (44, _), (45, _), (46, _), (47, _), (48, _), (49, _), (50, _), (51, _), (52, _), (53, _), (54, _), (55, _), (56, _), (57, _), (58, _), (59, _), (60, _), (61, _), (62, _), (63, _), (64, _), (65, _), (66, _), (67, _), (68, _), (69, _), (70, _)], _⟩ [] [_] rfl rfl rfl rfl ?_
            refine JL_done_up 115 [] [_] rfl rfl (by simp only [nrmF]; rfl) rfl rfl ?_
            refine JC_true rfl ?_
            refine JC_seq ?_
            refine JC_region ?_
            refine JL_assign rfl ?_
            refine JL_done_up 115 [] [_] rfl rfl (by simp only [nrmF]; rfl) rfl rfl ?_
            refine JC_ret ?_
            refine JE_then_ret ?_
            refine JE_block_ret ?_
            refine JE_then_ret ?_
            refine JE_nextS_ret ?_
            refine JE_block_ret ?_
            refine JE_then_ret ?_
            refine JE_ret (vs := [_]) [] Tryz.results80 ⟨rfl, rfl⟩ ?_ ?_
            · rw [dgC_no (i := i) (by omega) (fun h => by have h1 := h.1; have h2 := h.2; omega)]; exact ⟨rfl, rfl⟩
            · exact all_nil
          · refine JC_drawT mixed 45 [spV 26 [] _, spV 27 [] _, spV 28 [0, 1] _, spV 29 [2] _, spV 30 [3] _, spV 31 [4] _, spV 32 [5] _, spV 33 [6] _, spV 34 [6] _, spV 35 [6, 7, 8] _, spV 36 [6, 9] _, spV 37 [6, 10] _, spV 38 [6] _, spV 39 [6, 11, 12] _, spV 40 [6, 13] _, spV 41 [14] _, spV 42 [15] _, spV 43 [15] _, spV 44 [15, 16, 17] _, spV 45 [15, 18] _, spV 46 [15, 19] _, spV 47 [15, 20] _, spV 48 [15, 21] _, spV 49 [22] _, spV 50 [23] _, spV 51 [23] _, spV 52 [23, 24, 25] _, spV 53 [23, 26] _, spV 54 [23, 27] _, spV 55 [23] _, spV 56 [23, 28, 29] _, spV 57 [23, 30] _, spV 58 [31] _, spV 59 [32] _, spV 60 [32] _, spV 61 [32, 33, 34] _, spV 62 [32, 35] _, spV 63 [32, 36] _, spV 64 [32] _, spV 65 [32] _, spV 66 [32, 38, 39] _, spV 67 [32, 40] _, spV 68 [32, 41] _, spV 69 [32, 37, 42] _, spV 70 [32, 43] _] ⟨OblS_V (fun vals ex ψ => (by
                refine JL_move rfl ?_
                exact JL_nil (JE_stepV rfl ss0))), OblS_V (fun vals ex ψ => (by
                refine JL_move rfl ?_
                exact JL_nil (JE_stepV rfl ss0))), OblS_V (fun vals ex ψ => (by
                refine JL_normQ _ (_ :: ψ) rfl rfl ?_
                refine JL_indexAddr i sl22 rfl rfl rfl (by omega) (by first | exact Reads.view (by repeat (first | with_reducible exact mm0 | refine mmS ?_))) (by rw [pcells_length]; omega) ?_
                exact JL_nil (JE_stepV rfl ss0))), OblS_V (fun vals ex ψ => (by
                refine JL_normQ _ (_ :: ψ) rfl rfl ?_
                refine JL_fieldAddrE fo53_0 rfl (by first | exact Reads.view (by repeat (first | with_reducible exact mm0 | refine mmS ?_))) (by rw [pcells_length]; omega) ?_
                exact JL_nil (JE_stepV rfl ss0))), OblS_V (fun vals ex ψ => (by
                refine JL_normQ _ (_ :: ψ) rfl rfl ?_
                refine JL_loadE ty3 rfl (by first | exact Reads.view (by repeat (first | with_reducible exact mm0 | refine mmS ?_))) (pcells_one (by omega)).1 ?_
                exact JL_nil (JE_stepV rfl ss0))), OblS_V (fun vals ex ψ => (by
                refine JL_lss rfl rfl ?_
                rw [decide_eq_false (p := (l.getD i dP).1 < 0) (by omega)]
                exact JL_nil (JE_stepV rfl ss0))), OblS_V (fun vals ex ψ => (by
                refine JL_move rfl ?_
                exact JL_nil (JE_stepV rfl ss0))), OblS_V (fun vals ex ψ => (by
                refine JL_guard_yes rfl rfl ?_
                refine JL_move rfl ?_
                exact JL_nil (JE_stepV rfl ss0))), OblS_V (fun vals ex ψ => (by
                refine JL_guard_yes rfl rfl ?_
                refine JL_move rfl ?_
                exact JL_nil (JE_stepV rfl ss0))), OblS_V (fun vals ex ψ => (by
                refine JL_normQ _ (_ :: ψ) rfl rfl ?_
                refine JL_guard_yes rfl rfl ?_
                refine JL_indexAddr i sl22 rfl rfl rfl (by omega) (by first | exact Reads.view (by repeat (first | with_reducible exact mm0 | refine mmS ?_))) (by rw [pcells_length]; omega) ?_
                exact JL_nil (JE_stepV rfl ss0))), OblS_V (fun vals ex ψ => (by
                refine JL_normQ _ (_ :: ψ) rfl rfl ?_
                refine JL_guard_yes rfl rfl ?_
                refine JL_fieldAddrE fo53_0 rfl (by first | exact Reads.view (by repeat (first | with_reducible exact mm0 | refine mmS ?_))) (by rw [pcells_length]; omega) ?_
                exact JL_nil (JE_stepV rfl ss0))), OblS_V (fun vals ex ψ => (by
                refine JL_normQ _ (_ :: ψ) rfl rfl ?_
                refine JL_guard_yes rfl rfl ?_
                refine JL_loadE ty3 rfl (by first | exact Reads.view (by repeat (first | with_reducible exact mm0 | refine mmS ?_))) (pcells_one (by omega)).1 ?_
                exact JL_nil (JE_stepV rfl ss0))), OblS_V (fun vals ex ψ => (by
                refine JL_guard_yes rfl rfl ?_
                refine JL_move rfl ?_
                exact JL_nil (JE_stepV rfl ss0))), OblS_V (fun vals ex ψ => (by
                refine JL_guard_yes rfl rfl ?_
                refine JL_geq rfl rfl ?_
                rw [decide_eq_false (p := n ≤ (l.getD i dP).1) (by omega)]
                exact JL_nil (JE_stepV rfl ss0))), OblS_V (fun vals ex ψ => (by
                refine JL_pick_f rfl rfl ?_
                exact JL_nil (JE_stepV rfl ss0))), OblS_V (fun vals ex ψ => (by
                refine JL_move rfl ?_
                exact JL_nil (JE_stepV rfl ss0))), OblS_V (fun vals ex ψ => (by
                refine JL_guard_yes rfl rfl ?_
                refine JL_move rfl ?_
                exact JL_nil (JE_stepV rfl ss0))), OblS_V (fun vals ex ψ => (by
                refine JL_guard_yes rfl rfl ?_
                refine JL_move rfl ?_
                exact JL_nil (JE_stepV rfl ss0))), OblS_V (fun vals ex ψ => (by
                refine JL_normQ _ (_ :: ψ) rfl rfl ?_
                refine JL_guard_yes rfl rfl ?_
                refine JL_indexAddr i sl22 rfl rfl rfl (by omega) (by first | exact Reads.view (by repeat (first | with_reducible exact mm0 | refine mmS ?_))) (by rw [pcells_length]; omega) ?_
                exact JL_nil (JE_stepV rfl ss0))), OblS_V (fun vals ex ψ => (by
                refine JL_normQ _ (_ :: ψ) rfl rfl ?_
                refine JL_guard_yes rfl rfl ?_
                refine JL_fieldAddrE fo53_1 rfl (by first | exact Reads.view (by repeat (first | with_reducible exact mm0 | refine mmS ?_))) (by rw [pcells_length]; omega) ?_
                exact JL_nil (JE_stepV rfl ss0))), OblS_V (fun vals ex ψ => (by
                refine JL_normQ _ (_ :: ψ) rfl rfl ?_
                refine JL_guard_yes rfl rfl ?_
                refine JL_loadE ty3 rfl (by first | exact Reads.view (by repeat (first | with_reducible exact mm0 | refine mmS ?_))) (pcells_one (by omega)).2 ?_
                exact JL_nil (JE_stepV rfl ss0))), OblS_V (fun vals ex ψ => (by
                refine JL_guard_yes rfl rfl ?_
                refine JL_lss rfl rfl ?_
                rw [decide_eq_true (p := (l.getD i dP).2 < 0) (by omega)]
                exact JL_nil (JE_stepV rfl ss0))), OblS_V (fun vals ex ψ => (by
                refine JL_pick_f rfl rfl ?_
                exact JL_nil (JE_stepV rfl ss0))), OblS_V (fun vals ex ψ => (by
                refine JL_move rfl ?_
                exact JL_nil (JE_stepV rfl ss0))), OblS_V (fun vals ex ψ => (by
                refine JL_guard_no rfl rfl ?_
                exact JL_nil (JE_stepV rfl ss0))), OblS_V (fun vals ex ψ => (by
                refine JL_guard_no rfl rfl ?_
                exact JL_nil (JE_stepV rfl ss0))), OblS_V (fun vals ex ψ => (by
                refine JL_guard_no rfl rfl ?_
                exact JL_nil (JE_stepV rfl ss0))), OblS_V (fun vals ex ψ => (by
                refine JL_guard_no rfl rfl ?_
                exact JL_nil (JE_stepV rfl ss0))), OblS_V (fun vals ex ψ => (by
                refine JL_guard_no rfl rfl ?_
                exact JL_nil (JE_stepV rfl ss0))), OblS_V (fun vals ex ψ => (by
                refine JL_guard_no rfl rfl ?_
                exact JL_nil (JE_stepV rfl ss0))), OblS_V (fun vals ex ψ => (by
                refine JL_guard_no rfl rfl ?_
                exact JL_nil (JE_stepV rfl ss0))), OblS_V (fun vals ex ψ => (by
                refine JL_pick_t rfl rfl ?_
                exact JL_nil (JE_stepV rfl ss0))), OblS_V (fun vals ex ψ => (by
                refine JL_move rfl ?_
                exact JL_nil (JE_stepV rfl ss0))), OblS_V (fun vals ex ψ => (by
                refine JL_guard_no rfl rfl ?_
                exact JL_nil (JE_stepV rfl ss0))), OblS_V (fun vals ex ψ => (by
                refine JL_guard_no rfl rfl ?_
                exact JL_nil (JE_stepV rfl ss0))), OblS_V (fun vals ex ψ => (by
                refine JL_guard_no rfl rfl ?_
                exact JL_nil (JE_stepV rfl ss0))), OblS_V (fun vals ex ψ => (by
                refine JL_guard_no rfl rfl ?_
                exact JL_nil (JE_stepV rfl ss0))), OblS_V (fun vals ex ψ => (by
                refine JL_guard_no rfl rfl ?_
                exact JL_nil (JE_stepV rfl ss0))), OblS_V (fun vals ex ψ => (by
                refine JL_guard_no rfl rfl ?_
                exact JL_nil (JE_stepV rfl ss0))), OblS_V (fun vals ex ψ => (by
                refine JL_guard_no rfl rfl ?_
                exact JL_nil (JE_stepV rfl ss0))), OblS_V (fun vals ex ψ => (by
                refine JL_guard_no rfl rfl ?_
                exact JL_nil (JE_stepV rfl ss0))), OblS_V (fun vals ex ψ => (by
                refine JL_guard_no rfl rfl ?_
                exact JL_nil (JE_stepV rfl ss0))), OblS_V (fun vals ex ψ => (by
                refine JL_guard_no rfl rfl ?_
                exact JL_nil (JE_stepV rfl ss0))), OblS_V (fun vals ex ψ => (by
                refine JL_guard_no rfl rfl ?_
                exact JL_nil (JE_stepV rfl ss0))), OblS_V (fun vals ex ψ => (by
                refine JL_pick_t rfl rfl ?_
                exact JL_nil (JE_stepV rfl ss0))), trivial⟩ (by kernel_rfl) (fun vals bs => ?_)
            refine JL_normL [] ⟨115, [(26, _), (27, _), (28, _), (29, _), (30, _), (31, _), (32, _), (33, _), (34, _), (35, _), (36, _), (37, _), (38, _), (39, _), (40, _), (41, _), (42, _), (43, _), (44, _), (45, _), (46, _), (47, _), (48, _), (49, _), (50, _), (51, _), (52, _), (53, _), (54, _), (55, _), (56, _), (57, _), (58, _), (59, _), (60, _), (61, _), (62, _), (63, _), (64, _), (65, _), (66, _), (67, _), (68, _), (69, _), (70, _)], _⟩ [] [_] rfl rfl rfl rfl ?_
            refine JL_done_up 115 [] [_] rfl rfl (by simp only [nrmF]; rfl) rfl rfl ?_
            refine JC_true rfl ?_
            refine JC_seq ?_
            refine JC_region ?_
            refine JL_assign rfl ?_
            refine JL_done_up 115 [] [_] rfl rfl (by simp only [nrmF]; rfl) rfl rfl ?_
            refine JC_ret ?_
            refine JE_then_ret ?_
            refine JE_block_ret ?_
            refine JE_then_ret ?_
            refine JE_nextS_ret ?_
            refine JE_block_ret ?_
            refine JE_then_ret ?_
            refine JE_ret (vs := [_]) [] Tryz.results80 ⟨rfl, rfl⟩ ?_ ?_
            · rw [dgC_no (i := i) (by omega) (fun h => by have h1 := h.1; have h2 := h.2; omega)]; exact ⟨rfl, rfl⟩
            · exact all_nil
          · refine JC_drawT mixed 45 [spV 26 [] _, spV 27 [] _, spV 28 [0, 1] _, spV 29 [2] _, spV 30 [3] _, spV 31 [4] _, spV 32 [5] _, spV 33 [6] _, spV 34 [6] _, spV 35 [6, 7, 8] _, spV 36 [6, 9] _, spV 37 [6, 10] _, spV 38 [6] _, spV 39 [6, 11, 12] _, spV 40 [6, 13] _, spV 41 [14] _, spV 42 [15] _, spV 43 [15] _, spV 44 [15, 16, 17] _, spV 45 [15, 18] _, spV 46 [15, 19] _, spV 47 [15, 20] _, spV 48 [15, 21] _, spV 49 [22] _, spV 50 [23] _, spV 51 [23] _, spV 52 [23, 24, 25] _, spV 53 [23, 26] _, spV 54 [23, 27] _, spV 55 [23] _, spV 56 [23, 28, 29] _, spV 57 [23, 30] _, spV 58 [31] _, spV 59 [32] _, spV 60 [32] _, spV 61 [32, 33, 34] _, spV 62 [32, 35] _, spV 63 [32, 36] _, spV 64 [32] _, spV 65 [32] _, spV 66 [32, 38, 39] _, spV 67 [32, 40] _, spV 68 [32, 41] _, spV 69 [32, 37, 42] _, spV 70 [32, 43] _] ⟨OblS_V (fun vals ex ψ => (by
                refine JL_move rfl ?_
                exact JL_nil (JE_stepV rfl ss0))), OblS_V (fun vals ex ψ => (by
                refine JL_move rfl ?_
                exact JL_nil (JE_stepV rfl ss0))), OblS_V (fun vals ex ψ => (by
                refine JL_normQ _ (_ :: ψ) rfl rfl ?_
                refine JL_indexAddr i sl22 rfl rfl rfl (by omega) (by first | exact Reads.view (by repeat (first | with_reducible exact mm0 | refine mmS ?_))) (by rw [pcells_length]; omega) ?_
                exact JL_nil (JE_stepV rfl ss0))), OblS_V (fun vals ex ψ => (by
                refine JL_normQ _ (_ :: ψ) rfl rfl ?_
                refine JL_fieldAddrE fo53_0 rfl (by first | exact Reads.view (by repeat (first | with_reducible exact mm0 | refine mmS ?_))) (by rw [pcells_length]; omega) ?_
                exact JL_nil (JE_stepV rfl ss0))), OblS_V (fun vals ex ψ => (by
                refine JL_normQ _ (_ :: ψ) rfl rfl ?_
                refine JL_loadE ty3 rfl (by first | exact Reads.view (by repeat (first | with_reducible exact mm0 | refine mmS ?_))) (pcells_one (by omega)).1 ?_
                exact JL_nil (JE_stepV rfl ss0))), OblS_V (fun vals ex ψ => (by
                refine JL_lss rfl rfl ?_
                rw [decide_eq_false (p := (l.getD i dP).1 < 0) (by omega)]
                exact JL_nil (JE_stepV rfl ss0))), OblS_V (fun vals ex ψ => (by
                refine JL_move rfl ?_
                exact JL_nil (JE_stepV rfl ss0))), OblS_V (fun vals ex ψ => (by
                refine JL_guard_yes rfl rfl ?_
                refine JL_move rfl ?_
                exact JL_nil (JE_stepV rfl ss0))), OblS_V (fun vals ex ψ => (by
                refine JL_guard_yes rfl rfl ?_
                refine JL_move rfl ?_
                exact JL_nil (JE_stepV rfl ss0))), OblS_V (fun vals ex ψ => (by
                refine JL_normQ _ (_ :: ψ) rfl rfl ?_
                refine JL_guard_yes rfl rfl ?_
                refine JL_indexAddr i sl22 rfl rfl rfl (by omega) (by first | exact Reads.view (by repeat (first | with_reducible exact mm0 | refine mmS ?_))) (by rw [pcells_length]; omega) ?_
                exact JL_nil (JE_stepV rfl ss0))), OblS_V (fun vals ex ψ => (by
                refine JL_normQ _ (_ :: ψ) rfl rfl ?_
                refine JL_guard_yes rfl rfl ?_
                refine JL_fieldAddrE fo53_0 rfl (by first | exact Reads.view (by repeat (first | with_reducible exact mm0 | refine mmS ?_))) (by rw [pcells_length]; omega) ?_
                exact JL_nil (JE_stepV rfl ss0))), OblS_V (fun vals ex ψ => (by
                refine JL_normQ _ (_ :: ψ) rfl rfl ?_
                refine JL_guard_yes rfl rfl ?_
                refine JL_loadE ty3 rfl (by first | exact Reads.view (by repeat (first | with_reducible exact mm0 | refine mmS ?_))) (pcells_one (by omega)).1 ?_
                exact JL_nil (JE_stepV rfl ss0))), OblS_V (fun vals ex ψ => (by
                refine JL_guard_yes rfl rfl ?_
                refine JL_move rfl ?_
                exact JL_nil (JE_stepV rfl ss0))), OblS_V (fun vals ex ψ => (by
                refine JL_guard_yes rfl rfl ?_
                refine JL_geq rfl rfl ?_
                rw [decide_eq_false (p := n ≤ (l.getD i dP).1) (by omega)]
                exact JL_nil (JE_stepV rfl ss0))), OblS_V (fun vals ex ψ => (by
                refine JL_pick_f rfl rfl ?_
                exact JL_nil (JE_stepV rfl ss0))), OblS_V (fun vals ex ψ => (by
                refine JL_move rfl ?_
                exact JL_nil (JE_stepV rfl ss0))), OblS_V (fun vals ex ψ => (by
                refine JL_guard_yes rfl rfl ?_
                refine JL_move rfl ?_
                exact JL_nil (JE_stepV rfl ss0))), OblS_V (fun vals ex ψ => (by
                refine JL_guard_yes rfl rfl ?_
                refine JL_move rfl ?_
                exact JL_nil (JE_stepV rfl ss0))), OblS_V (fun vals ex ψ => (by
                refine JL_normQ _ (_ :: ψ) rfl rfl ?_
                refine JL_guard_yes rfl rfl ?_
                refine JL_indexAddr i sl22 rfl rfl rfl (by omega) (by first | exact Reads.view (by repeat (first | with_reducible exact mm0 | refine mmS ?_))) (by rw [pcells_length]; omega) ?_
                exact JL_nil (JE_stepV rfl ss0))), OblS_V (fun vals ex ψ => (by
                refine JL_normQ _ (_ :: ψ) rfl rfl ?_
                refine JL_guard_yes rfl rfl ?_
                refine JL_fieldAddrE fo53_1 rfl (by first | exact Reads.view (by repeat (first | with_reducible exact mm0 | refine mmS ?_))) (by rw [pcells_length]; omega) ?_
                exact JL_nil (JE_stepV rfl ss0))), OblS_V (fun vals ex ψ => (by
                refine JL_normQ _ (_ :: ψ) rfl rfl ?_
                refine JL_guard_yes rfl rfl ?_
                refine JL_loadE ty3 rfl (by first | exact Reads.view (by repeat (first | with_reducible exact mm0 | refine mmS ?_))) (pcells_one (by omega)).2 ?_
                exact JL_nil (JE_stepV rfl ss0))), OblS_V (fun vals ex ψ => (by
                refine JL_guard_yes rfl rfl ?_
                refine JL_lss rfl rfl ?_
                rw [decide_eq_false (p := (l.getD i dP).2 < 0) (by omega)]
                exact JL_nil (JE_stepV rfl ss0))), OblS_V (fun vals ex ψ => (by
                refine JL_pick_f rfl rfl ?_
                exact JL_nil (JE_stepV rfl ss0))), OblS_V (fun vals ex ψ => (by
                refine JL_move rfl ?_
                exact JL_nil (JE_stepV rfl ss0))), OblS_V (fun vals ex ψ => (by
                refine JL_guard_yes rfl rfl ?_
                refine JL_move rfl ?_
                exact JL_nil (JE_stepV rfl ss0))), OblS_V (fun vals ex ψ => (by
                refine JL_guard_yes rfl rfl ?_
                refine JL_move rfl ?_
                exact JL_nil (JE_stepV rfl ss0))), OblS_V (fun vals ex ψ => (by
                refine JL_normQ _ (_ :: ψ) rfl rfl ?_
                refine JL_guard_yes rfl rfl ?_
                refine JL_indexAddr i sl22 rfl rfl rfl (by omega) (by first | exact Reads.view (by repeat (first | with_reducible exact mm0 | refine mmS ?_))) (by rw [pcells_length]; omega) ?_
                exact JL_nil (JE_stepV rfl ss0))), OblS_V (fun vals ex ψ => (by
                refine JL_normQ _ (_ :: ψ) rfl rfl ?_
                refine JL_guard_yes rfl rfl ?_
                refine JL_fieldAddrE fo53_1 rfl (by first | exact Reads.view (by repeat (first | with_reducible exact mm0 | refine mmS ?_))) (by rw [pcells_length]; omega) ?_
                exact JL_nil (JE_stepV rfl ss0))), OblS_V (fun vals ex ψ => (by
                refine JL_normQ _ (_ :: ψ) rfl rfl ?_
                refine JL_guard_yes rfl rfl ?_
                refine JL_loadE ty3 rfl (by first | exact Reads.view (by repeat (first | with_reducible exact mm0 | refine mmS ?_))) (pcells_one (by omega)).2 ?_
                exact JL_nil (JE_stepV rfl ss0))), OblS_V (fun vals ex ψ => (by
                refine JL_guard_yes rfl rfl ?_
                refine JL_move rfl ?_
                exact JL_nil (JE_stepV rfl ss0))), OblS_V (fun vals ex ψ => (by
                refine JL_guard_yes rfl rfl ?_
                refine JL_geq rfl rfl ?_
                rw [decide_eq_true (p := n ≤ (l.getD i dP).2) (by omega)]
                exact JL_nil (JE_stepV rfl ss0))), OblS_V (fun vals ex ψ => (by
                refine JL_pick_f rfl rfl ?_
                exact JL_nil (JE_stepV rfl ss0))), OblS_V (fun vals ex ψ => (by
                refine JL_move rfl ?_
                exact JL_nil (JE_stepV rfl ss0))), OblS_V (fun vals ex ψ => (by
                refine JL_guard_no rfl rfl ?_
                exact JL_nil (JE_stepV rfl ss0))), OblS_V (fun vals ex ψ => (by
                refine JL_guard_no rfl rfl ?_
                exact JL_nil (JE_stepV rfl ss0))), OblS_V (fun vals ex ψ => (by
                refine JL_guard_no rfl rfl ?_
                exact JL_nil (JE_stepV rfl ss0))), OblS_V (fun vals ex ψ => (by
                refine JL_guard_no rfl rfl ?_
                exact JL_nil (JE_stepV rfl ss0))), OblS_V (fun vals ex ψ => (by
                refine JL_guard_no rfl rfl ?_
                exact JL_nil (JE_stepV rfl ss0))), OblS_V (fun vals ex ψ => (by
                refine JL_guard_no rfl rfl ?_
                exact JL_nil (JE_stepV rfl ss0))), OblS_V (fun vals ex ψ => (by
                refine JL_guard_no rfl rfl ?_
                exact JL_nil (JE_stepV rfl ss0))), OblS_V (fun vals ex ψ => (by
                refine JL_guard_no rfl rfl ?_
                exact JL_nil (JE_stepV rfl ss0))), OblS_V (fun vals ex ψ => (by
                refine JL_guard_no rfl rfl ?_
                exact JL_nil (JE_stepV rfl ss0))), OblS_V (fun vals ex ψ => (by
                refine JL_guard_no rfl rfl ?_
                exact JL_nil (JE_stepV rfl ss0))), OblS_V (fun vals ex ψ => (by
                refine JL_guard_no rfl rfl ?_
                exact JL_nil (JE_stepV rfl ss0))), OblS_V (fun vals ex ψ => (by
                refine JL_pick_t rfl rfl ?_
                exact JL_nil (JE_stepV rfl ss0))), trivial⟩ (by kernel_rfl) (fun vals bs => ?_)
            refine JL_normL [] ⟨115, [(26, _), (27, _), (28, _), (29, _), (30, _), (31, _), (32, _), (33, _), (34, _), (35, _), (36, _), (37, _), (38, _), (39, _), (40, _), (41, _), (42, _), (43, _), (44, _), (45, _), (46, _), (47, _), (48, _), (49, _), (50, _), (51, _), (52, _), (53, _), (54, _), (55, _), (56, _), (57, _), (58, _), (59, _), (60, _), (61, _), (62, _), (63, _), (64, _), (65, _), (66, _), (67, _), (68, _), (69, _), (70, _)], _⟩ [] [_] rfl rfl rfl rfl ?_
            refine JL_done_up 115 [] [_] rfl rfl (by simp only [nrmF]; rfl) rfl rfl ?_
            refine JC_true rfl ?_
            refine JC_seq ?_
            refine JC_region ?_
            refine JL_assign rfl ?_
            refine JL_done_up 115 [] [_] rfl rfl (by simp only [nrmF]; rfl) rfl rfl ?_
            refine JC_ret ?_
            refine JE_then_ret ?_
            refine JE_block_ret ?_
            refine JE_then_ret ?_
            refine JE_nextS_ret ?_
            refine JE_block_ret ?_
            refine JE_then_ret ?_
            refine JE_ret (vs := [_]) [] Tryz.results80 ⟨rfl, rfl⟩ ?_ ?_
            · rw [dgC_no (i := i) (by omega) (fun h => by have h1 := h.1; have h2 := h.2; omega)]; exact ⟨rfl, rfl⟩
            · exact all_nil
          · refine JC_drawT mixed 45 [spV 26 [] _, spV 27 [] _, spV 28 [0, 1] _, spV 29 [2] _, spV 30 [3] _, spV 31 [4] _, spV 32 [5] _, spV 33 [6] _, spV 34 [6] _, spV 35 [6, 7, 8] _, spV 36 [6, 9] _, spV 37 [6, 10] _, spV 38 [6] _, spV 39 [6, 11, 12] _, spV 40 [6, 13] _, spV 41 [14] _, spV 42 [15] _, spV 43 [15] _, spV 44 [15, 16, 17] _, spV 45 [15, 18] _, spV 46 [15, 19] _, spV 47 [15, 20] _, spV 48 [15, 21] _, spV 49 [22] _, spV 50 [23] _, spV 51 [23] _, spV 52 [23, 24, 25] _, spV 53 [23, 26] _, spV 54 [23, 27] _, spV 55 [23] _, spV 56 [23, 28, 29] _, spV 57 [23, 30] _, spV 58 [31] _, spV 59 [32] _, spV 60 [32] _, spV 61 [32, 33, 34] _, spV 62 [32, 35] _, spV 63 [32, 36] _, spV 64 [32] _, spV 65 [32] _, spV 66 [32, 38, 39] _, spV 67 [32, 40] _, spV 68 [32, 41] _, spV 69 [32, 37, 42] _, spV 70 [32, 43] _] ⟨OblS_V (fun vals ex ψ => (by
                refine JL_move rfl ?_
                exact JL_nil (JE_stepV rfl ss0))), OblS_V (fun vals ex ψ => (by
                refine JL_move rfl ?_
                exact JL_nil (JE_stepV rfl ss0))), OblS_V (fun vals ex ψ => (by
                refine JL_normQ _ (_ :: ψ) rfl rfl ?_
                refine JL_indexAddr i sl22 rfl rfl rfl (by omega) (by first | exact Reads.view (by repeat (first | with_reducible exact mm0 | refine mmS ?_))) (by rw [pcells_length]; omega) ?_
                exact JL_nil (JE_stepV rfl ss0))), OblS_V (fun vals ex ψ => (by
                refine JL_normQ _ (_ :: ψ) rfl rfl ?_
                refine JL_fieldAddrE fo53_0 rfl (by first | exact Reads.view (by repeat (first | with_reducible exact mm0 | refine mmS ?_))) (by rw [pcells_length]; omega) ?_
                exact JL_nil (JE_stepV rfl ss0))), OblS_V (fun vals ex ψ => (by
                refine JL_normQ _ (_ :: ψ) rfl rfl ?_
                refine JL_loadE ty3 rfl (by first | exact Reads.view (by repeat (first | with_reducible exact mm0 | refine mmS ?_))) (pcells_one (by omega)).1 ?_
                exact JL_nil (JE_stepV rfl ss0))), OblS_V (fun vals ex ψ => (by
                refine JL_lss rfl rfl ?_
                rw [decide_eq_false (p := (l.getD i dP).1 < 0) (by omega)]
                exact JL_nil (JE_stepV rfl ss0))), OblS_V (fun vals ex ψ => (by
                refine JL_move rfl ?_
                exact JL_nil (JE_stepV rfl ss0))), OblS_V (fun vals ex ψ => (by
                refine JL_guard_yes rfl rfl ?_
                refine JL_move rfl ?_
                exact JL_nil (JE_stepV rfl ss0))), OblS_V (fun vals ex ψ => (by
                refine JL_guard_yes rfl rfl ?_
                refine JL_move rfl ?_
                exact JL_nil (JE_stepV rfl ss0))), OblS_V (fun vals ex ψ => (by
                refine JL_normQ _ (_ :: ψ) rfl rfl ?_
                refine JL_guard_yes rfl rfl ?_
                refine JL_indexAddr i sl22 rfl rfl rfl (by omega) (by first | exact Reads.view (by repeat (first | with_reducible exact mm0 | refine mmS ?_))) (by rw [pcells_length]; omega) ?_
                exact JL_nil (JE_stepV rfl ss0))), OblS_V (fun vals ex ψ => (by
                refine JL_normQ _ (_ :: ψ) rfl rfl ?_
                refine JL_guard_yes rfl rfl ?_
                refine JL_fieldAddrE fo53_0 rfl (by first | exact Reads.view (by repeat (first | with_reducible exact mm0 | refine mmS ?_))) (by rw [pcells_length]; omega) ?_
                exact JL_nil (JE_stepV rfl ss0))), OblS_V (fun vals ex ψ => (by
                refine JL_normQ _ (_ :: ψ) rfl rfl ?_
                refine JL_guard_yes rfl rfl ?_
                refine JL_loadE ty3 rfl (by first | exact Reads.view (by repeat (first | with_reducible exact mm0 | refine mmS ?_))) (pcells_one (by omega)).1 ?_
                exact JL_nil (JE_stepV rfl ss0))), OblS_V (fun vals ex ψ => (by
                refine JL_guard_yes rfl rfl ?_
                refine JL_move rfl ?_
                exact JL_nil (JE_stepV rfl ss0))), OblS_V (fun vals ex ψ => (by
                refine JL_guard_yes rfl rfl ?_
                refine JL_geq rfl rfl ?_
                rw [decide_eq_false (p := n ≤ (l.getD i dP).1) (by omega)]
                exact JL_nil (JE_stepV rfl ss0))), OblS_V (fun vals ex ψ => (by
                refine JL_pick_f rfl rfl ?_
                exact JL_nil (JE_stepV rfl ss0))), OblS_V (fun vals ex ψ => (by
                refine JL_move rfl ?_
                exact JL_nil (JE_stepV rfl ss0))), OblS_V (fun vals ex ψ => (by
                refine JL_guard_yes rfl rfl ?_
                refine JL_move rfl ?_
                exact JL_nil (JE_stepV rfl ss0))), OblS_V (fun vals ex ψ => (by
                refine JL_guard_yes rfl rfl ?_
                refine JL_move rfl ?_
                exact JL_nil (JE_stepV rfl ss0))), OblS_V (fun vals ex ψ => (by
                refine JL_normQ _ (_ :: ψ) rfl rfl ?_
                refine JL_guard_yes rfl rfl ?_
                refine JL_indexAddr i sl22 rfl rfl rfl (by omega) (by first | exact Reads.view (by repeat (first | with_reducible exact mm0 | refine mmS ?_))) (by rw [pcells_length]; omega) ?_
                exact JL_nil (JE_stepV rfl ss0))), OblS_V (fun vals ex ψ => (by
                refine JL_normQ _ (_ :: ψ) rfl rfl ?_
                refine JL_guard_yes rfl rfl ?_
                refine JL_fieldAddrE fo53_1 rfl (by first | exact Reads.view (by repeat (first | with_reducible exact mm0 | refine mmS ?_))) (by rw [pcells_length]; omega) ?_
                exact JL_nil (JE_stepV rfl ss0))), OblS_V (fun vals ex ψ => (by
                refine JL_normQ _ (_ :: ψ) rfl rfl ?_
                refine JL_guard_yes rfl rfl ?_
                refine JL_loadE ty3 rfl (by first | exact Reads.view (by repeat (first | with_reducible exact mm0 | refine mmS ?_))) (pcells_one (by omega)).2 ?_
                exact JL_nil (JE_stepV rfl ss0))), OblS_V (fun vals ex ψ => (by
                refine JL_guard_yes rfl rfl ?_
                refine JL_lss rfl rfl ?_
                rw [decide_eq_false (p := (l.getD i dP).2 < 0) (by omega)]
                exact JL_nil (JE_stepV rfl ss0))), OblS_V (fun vals ex ψ => (by
                refine JL_pick_f rfl rfl ?_
                exact JL_nil (JE_stepV rfl ss0))), OblS_V (fun vals ex ψ => (by
                refine JL_move rfl ?_
                exact JL_nil (JE_stepV rfl ss0))), OblS_V (fun vals ex ψ => (by
                refine JL_guard_yes rfl rfl ?_
                refine JL_move rfl ?_
                exact JL_nil (JE_stepV rfl ss0))), OblS_V (fun vals ex ψ => (by
                refine JL_guard_yes rfl rfl ?_
                refine JL_move rfl ?_
                exact JL_nil (JE_stepV rfl ss0))), OblS_V (fun vals ex ψ => (by
                refine JL_normQ _ (_ :: ψ) rfl rfl ?_
                refine JL_guard_yes rfl rfl ?_
                refine JL_indexAddr i sl22 rfl rfl rfl (by omega) (by first | exact Reads.view (by repeat (first | with_reducible exact mm0 | refine mmS ?_))) (by rw [pcells_length]; omega) ?_
                exact JL_nil (JE_stepV rfl ss0))), OblS_V (fun vals ex ψ => (by
                refine JL_normQ _ (_ :: ψ) rfl rfl ?_
                refine JL_guard_yes rfl rfl ?_
                refine JL_fieldAddrE fo53_1 rfl (by first | exact Reads.view (by repeat (first | with_reducible exact mm0 | refine mmS ?_))) (by rw [pcells_length]; omega) ?_
                exact JL_nil (JE_stepV rfl ss0))), OblS_V (fun vals ex ψ => (by
                refine JL_normQ _ (_ :: ψ) rfl rfl ?_
                refine JL_guard_yes rfl rfl ?_
                refine JL_loadE ty3 rfl (by first | exact Reads.view (by repeat (first | with_reducible exact mm0 | refine mmS ?_))) (pcells_one (by omega)).2 ?_
                exact JL_nil (JE_stepV rfl ss0))), OblS_V (fun vals ex ψ => (by
                refine JL_guard_yes rfl rfl ?_
                refine JL_move rfl ?_
                exact JL_nil (JE_stepV rfl ss0))), OblS_V (fun vals ex ψ => (by
                refine JL_guard_yes rfl rfl ?_
                refine JL_geq rfl rfl ?_
                rw [decide_eq_false (p := n ≤ (l.getD i dP).2) (by omega)]
                exact JL_nil (JE_stepV rfl ss0))), OblS_V (fun vals ex ψ => (by
                refine JL_pick_f rfl rfl ?_
                exact JL_nil (JE_stepV rfl ss0))), OblS_V (fun vals ex ψ => (by
                refine JL_move rfl ?_
                exact JL_nil (JE_stepV rfl ss0))), OblS_V (fun vals ex ψ => (by
                refine JL_guard_yes rfl rfl ?_
                refine JL_move rfl ?_
                exact JL_nil (JE_stepV rfl ss0))), OblS_V (fun vals ex ψ => (by
                refine JL_guard_yes rfl rfl ?_
                refine JL_move rfl ?_
                exact JL_nil (JE_stepV rfl ss0))), OblS_V (fun vals ex ψ => (by
                refine JL_normQ _ (_ :: ψ) rfl rfl ?_
                refine JL_guard_yes rfl rfl ?_
                refine JL_indexAddr i sl22 rfl rfl rfl (by omega) (by first | exact Reads.view (by repeat (first | with_reducible exact mm0 | refine mmS ?_))) (by rw [pcells_length]; omega) ?_
                exact JL_nil (JE_stepV rfl ss0))), OblS_V (fun vals ex ψ => (by
                refine JL_normQ _ (_ :: ψ) rfl rfl ?_
                refine JL_guard_yes rfl rfl ?_
                refine JL_fieldAddrE fo53_0 rfl (by first | exact Reads.view (by repeat (first | with_reducible exact mm0 | refine mmS ?_))) (by rw [pcells_length]; omega) ?_
                exact JL_nil (JE_stepV rfl ss0))), OblS_V (fun vals ex ψ => (by
                refine JL_normQ _ (_ :: ψ) rfl rfl ?_
                refine JL_guard_yes rfl rfl ?_
                refine JL_loadE ty3 rfl (by first | exact Reads.view (by repeat (first | with_reducible exact mm0 | refine mmS ?_))) (pcells_one (by omega)).1 ?_
                exact JL_nil (JE_stepV rfl ss0))), OblS_V (fun vals ex ψ => (by
                refine JL_guard_yes rfl rfl ?_
                refine JL_move rfl ?_
                exact JL_nil (JE_stepV rfl ss0))), OblS_V (fun vals ex ψ => (by
                refine JL_guard_yes rfl rfl ?_
                refine JL_move rfl ?_
                exact JL_nil (JE_stepV rfl ss0))), OblS_V (fun vals ex ψ => (by
                refine JL_normQ _ (_ :: ψ) rfl rfl ?_
                refine JL_guard_yes rfl rfl ?_
                refine JL_indexAddr i sl22 rfl rfl rfl (by omega) (by first | exact Reads.view (by repeat (first | with_reducible exact mm0 | refine mmS ?_))) (by rw [pcells_length]; omega) ?_
                exact JL_nil (JE_stepV rfl ss0))), OblS_V (fun vals ex ψ => (by
                refine JL_normQ _ (_ :: ψ) rfl rfl ?_
                refine JL_guard_yes rfl rfl ?_
                refine JL_fieldAddrE fo53_1 rfl (by first | exact Reads.view (by repeat (first | with_reducible exact mm0 | refine mmS ?_))) (by rw [pcells_length]; omega) ?_
                exact JL_nil (JE_stepV rfl ss0))), OblS_V (fun vals ex ψ => (by
                refine JL_normQ _ (_ :: ψ) rfl rfl ?_
                refine JL_guard_yes rfl rfl ?_
                refine JL_loadE ty3 rfl (by first | exact Reads.view (by repeat (first | with_reducible exact mm0 | refine mmS ?_))) (pcells_one (by omega)).2 ?_
                exact JL_nil (JE_stepV rfl ss0))), OblS_V (fun vals ex ψ => (by
                refine JL_guard_yes rfl rfl ?_
                refine JL_eql rfl rfl ?_
                rw [decide_eq_true (p := (l.getD i dP).1 = (l.getD i dP).2) (by omega)]
                exact JL_nil (JE_stepV rfl ss0))), OblS_V (fun vals ex ψ => (by
                refine JL_pick_f rfl rfl ?_
                exact JL_nil (JE_stepV rfl ss0))), trivial⟩ (by kernel_rfl) (fun vals bs => ?_)
            refine JL_normL [] ⟨115, [(26, _), (27, _), (28, _), (29, _), (30, _), (31, _), (32, _), (33, _), (34, _), (35, _), (36, _), (37, _), (38, _), (39, _), (40, _), (41, _), (42, _), (43, _), (44, _), (45, _), (46, _), (47, _), (48, _), (49, _), (50, _), (51, _), (52, _), (53, _), (54, _), (55, _), (56, _), (57, _), (58, _), (59, _), (60, _), (61, _), (62, _), (63, _), (64, _), (65, _), (66, _), (67, _), (68, _), (69, _), (70, _)], _⟩ [] [_] rfl rfl rfl rfl ?_
            refine JL_done_up 115 [] [_] rfl rfl (by simp only [nrmF]; rfl) rfl rfl ?_
            refine JC_true rfl ?_
            refine JC_seq ?_
            refine JC_region ?_
            refine JL_assign rfl ?_
            refine JL_done_up 115 [] [_] rfl rfl (by simp only [nrmF]; rfl) rfl rfl ?_
            refine JC_ret ?_
            refine JE_then_ret ?_
            refine JE_block_ret ?_
            refine JE_then_ret ?_
            refine JE_nextS_ret ?_
            refine JE_block_ret ?_
            refine JE_then_ret ?_
            refine JE_ret (vs := [_]) [] Tryz.results80 ⟨rfl, rfl⟩ ?_ ?_
            · rw [dgC_no (i := i) (by omega) (fun h => by have h1 := h.1; have h2 := h.2; omega)]; exact ⟨rfl, rfl⟩
            · exact all_nil
          · refine JC_drawT mixed 45 [spV 26 [] _, spV 27 [] _, spV 28 [0, 1] _, spV 29 [2] _, spV 30 [3] _, spV 31 [4] _, spV 32 [5] _, spV 33 [6] _, spV 34 [6] _, spV 35 [6, 7, 8] _, spV 36 [6, 9] _, spV 37 [6, 10] _, spV 38 [6] _, spV 39 [6, 11, 12] _, spV 40 [6, 13] _, spV 41 [14] _, spV 42 [15] _, spV 43 [15] _, spV 44 [15, 16, 17] _, spV 45 [15, 18] _, spV 46 [15, 19] _, spV 47 [15, 20] _, spV 48 [15, 21] _, spV 49 [22] _, spV 50 [23] _, spV 51 [23] _, spV 52 [23, 24, 25] _, spV 53 [23, 26] _, spV 54 [23, 27] _, spV 55 [23] _, spV 56 [23, 28, 29] _, spV 57 [23, 30] _, spV 58 [31] _, spV 59 [32] _, spV 60 [32] _, spV 61 [32, 33, 34] _, spV 62 [32, 35] _, spV 63 [32, 36] _, spV 64 [32] _, spV 65 [32] _, spV 66 [32, 38, 39] _, spV 67 [32, 40] _, spV 68 [32, 41] _, spV 69 [32, 37, 42] _, spV 70 [32, 43] _] ⟨OblS_V (fun vals ex ψ => (by
                refine JL_move rfl ?_
                exact JL_nil (JE_stepV rfl ss0))), OblS_V (fun vals ex ψ => (by
                refine JL_move rfl ?_
                exact JL_nil (JE_stepV rfl ss0))), OblS_V (fun vals ex ψ => (by
                refine JL_normQ _ (_ :: ψ) rfl rfl ?_
                refine JL_indexAddr i sl22 rfl rfl rfl (by omega) (by first | exact Reads.view (by repeat (first | with_reducible exact mm0 | refine mmS ?_))) (by rw [pcells_length]; omega) ?_
                exact JL_nil (JE_stepV rfl ss0))), OblS_V (fun vals ex ψ => (by
                refine JL_normQ _ (_ :: ψ) rfl rfl ?_
                refine JL_fieldAddrE fo53_0 rfl (by first | exact Reads.view (by repeat (first | with_reducible exact mm0 | refine mmS ?_))) (by rw [pcells_length]; omega) ?_
                exact JL_nil (JE_stepV rfl ss0))), OblS_V (fun vals ex ψ => (by
                refine JL_normQ _ (_ :: ψ) rfl rfl ?_
                refine JL_loadE ty3 rfl (by first | exact Reads.view (by repeat (first | with_reducible exact mm0 | refine mmS ?_))) (pcells_one (by omega)).1 ?_
                exact JL_nil (JE_stepV rfl ss0))), OblS_V (fun vals ex ψ => (by
                refine JL_lss rfl rfl ?_
                rw [decide_eq_false (p := (l.getD i dP).1 < 0) (by omega)]
                exact JL_nil (JE_stepV rfl ss0))), OblS_V (fun vals ex ψ => (by
                refine JL_move rfl ?_
                exact JL_nil (JE_stepV rfl ss0))), OblS_V (fun vals ex ψ => (by
                refine JL_guard_yes rfl rfl ?_
                refine JL_move rfl ?_
                exact JL_nil (JE_stepV rfl ss0))), OblS_V (fun vals ex ψ => (by
                refine JL_guard_yes rfl rfl ?_
                refine JL_move rfl ?_
                exact JL_nil (JE_stepV rfl ss0))), OblS_V (fun vals ex ψ => (by
                refine JL_normQ _ (_ :: ψ) rfl rfl ?_
                refine JL_guard_yes rfl rfl ?_
                refine JL_indexAddr i sl22 rfl rfl rfl (by omega) (by first | exact Reads.view (by repeat (first | with_reducible exact mm0 | refine mmS ?_))) (by rw [pcells_length]; omega) ?_
                exact JL_nil (JE_stepV rfl ss0))), OblS_V (fun vals ex ψ => (by
                refine JL_normQ _ (_ :: ψ) rfl rfl ?_
                refine JL_guard_yes rfl rfl ?_
                refine JL_fieldAddrE fo53_0 rfl (by first | exact Reads.view (by repeat (first | with_reducible exact mm0 | refine mmS ?_))) (by rw [pcells_length]; omega) ?_
                exact JL_nil (JE_stepV rfl ss0))), OblS_V (fun vals ex ψ => (by
                refine JL_normQ _ (_ :: ψ) rfl rfl ?_
                refine JL_guard_yes rfl rfl ?_
                refine JL_loadE ty3 rfl (by first | exact Reads.view (by repeat (first | with_reducible exact mm0 | refine mmS ?_))) (pcells_one (by omega)).1 ?_
                exact JL_nil (JE_stepV rfl ss0))), OblS_V (fun vals ex ψ => (by
                refine JL_guard_yes rfl rfl ?_
                refine JL_move rfl ?_
                exact JL_nil (JE_stepV rfl ss0))), OblS_V (fun vals ex ψ => (by
                refine JL_guard_yes rfl rfl ?_
                refine JL_geq rfl rfl ?_
                rw [decide_eq_false (p := n ≤ (l.getD i dP).1) (by omega)]
                exact JL_nil (JE_stepV rfl ss0))), OblS_V (fun vals ex ψ => (by
                refine JL_pick_f rfl rfl ?_
                exact JL_nil (JE_stepV rfl ss0))), OblS_V (fun vals ex ψ => (by
                refine JL_move rfl ?_
                exact JL_nil (JE_stepV rfl ss0))), OblS_V (fun vals ex ψ => (by
                refine JL_guard_yes rfl rfl ?_
                refine JL_move rfl ?_
                exact JL_nil (JE_stepV rfl ss0))), OblS_V (fun vals ex ψ => (by
                refine JL_guard_yes rfl rfl ?_
                refine JL_move rfl ?_
                exact JL_nil (JE_stepV rfl ss0))), OblS_V (fun vals ex ψ => (by
                refine JL_normQ _ (_ :: ψ) rfl rfl ?_
                refine JL_guard_yes rfl rfl ?_
                refine JL_indexAddr i sl22 rfl rfl rfl (by omega) (by first | exact Reads.view (by repeat (first | with_reducible exact mm0 | refine mmS ?_))) (by rw [pcells_length]; omega) ?_
                exact JL_nil (JE_stepV rfl ss0))), OblS_V (fun vals ex ψ => (by
                refine JL_normQ _ (_ :: ψ) rfl rfl ?_
                refine JL_guard_yes rfl rfl ?_
                refine JL_fieldAddrE fo53_1 rfl (by first | exact Reads.view (by repeat (first | with_reducible exact mm0 | refine mmS ?_))) (by rw [pcells_length]; omega) ?_
                exact JL_nil (JE_stepV rfl ss0))), OblS_V (fun vals ex ψ => (by
                refine JL_normQ _ (_ :: ψ) rfl rfl ?_
                refine JL_guard_yes rfl rfl ?_
                refine JL_loadE ty3 rfl (by first | exact Reads.view (by repeat (first | with_reducible exact mm0 | refine mmS ?_))) (pcells_one (by omega)).2 ?_
                exact JL_nil (JE_stepV rfl ss0))), OblS_V (fun vals ex ψ => (by
                refine JL_guard_yes rfl rfl ?_
                refine JL_lss rfl rfl ?_
                rw [decide_eq_false (p := (l.getD i dP).2 < 0) (by omega)]
                exact JL_nil (JE_stepV rfl ss0))), OblS_V (fun vals ex ψ => (by
                refine JL_pick_f rfl rfl ?_
                exact JL_nil (JE_stepV rfl ss0))), OblS_V (fun vals ex ψ => (by
                refine JL_move rfl ?_
                exact JL_nil (JE_stepV rfl ss0))), OblS_V (fun vals ex ψ => (by
                refine JL_guard_yes rfl rfl ?_
                refine JL_move rfl ?_
                exact JL_nil (JE_stepV rfl ss0))), OblS_V (fun vals ex ψ => (by
                refine JL_guard_yes rfl rfl ?_
                refine JL_move rfl ?_
                exact JL_nil (JE_stepV rfl ss0))), OblS_V (fun vals ex ψ => (by
                refine JL_normQ _ (_ :: ψ) rfl rfl ?_
                refine JL_guard_yes rfl rfl ?_
                refine JL_indexAddr i sl22 rfl rfl rfl (by omega) (by first | exact Reads.view (by repeat (first | with_reducible exact mm0 | refine mmS ?_))) (by rw [pcells_length]; omega) ?_
                exact JL_nil (JE_stepV rfl ss0))), OblS_V (fun vals ex ψ => (by
                refine JL_normQ _ (_ :: ψ) rfl rfl ?_
                refine JL_guard_yes rfl rfl ?_
                refine JL_fieldAddrE fo53_1 rfl (by first | exact Reads.view (by repeat (first | with_reducible exact mm0 | refine mmS ?_))) (by rw [pcells_length]; omega) ?_
                exact JL_nil (JE_stepV rfl ss0))), OblS_V (fun vals ex ψ => (by
                refine JL_normQ _ (_ :: ψ) rfl rfl ?_
                refine JL_guard_yes rfl rfl ?_
                refine JL_loadE ty3 rfl (by first | exact Reads.view (by repeat (first | with_reducible exact mm0 | refine mmS ?_))) (pcells_one (by omega)).2 ?_
                exact JL_nil (JE_stepV rfl ss0))), OblS_V (fun vals ex ψ => (by
                refine JL_guard_yes rfl rfl ?_
                refine JL_move rfl ?_
                exact JL_nil (JE_stepV rfl ss0))), OblS_V (fun vals ex ψ => (by
                refine JL_guard_yes rfl rfl ?_
                refine JL_geq rfl rfl ?_
                rw [decide_eq_false (p := n ≤ (l.getD i dP).2) (by omega)]
                exact JL_nil (JE_stepV rfl ss0))), OblS_V (fun vals ex ψ => (by
                refine JL_pick_f rfl rfl ?_
                exact JL_nil (JE_stepV rfl ss0))), OblS_V (fun vals ex ψ => (by
                refine JL_move rfl ?_
                exact JL_nil (JE_stepV rfl ss0))), OblS_V (fun vals ex ψ => (by
                refine JL_guard_yes rfl rfl ?_
                refine JL_move rfl ?_
                exact JL_nil (JE_stepV rfl ss0))), OblS_V (fun vals ex ψ => (by
                refine JL_guard_yes rfl rfl ?_
                refine JL_move rfl ?_
                exact JL_nil (JE_stepV rfl ss0))), OblS_V (fun vals ex ψ => (by
                refine JL_normQ _ (_ :: ψ) rfl rfl ?_
                refine JL_guard_yes rfl rfl ?_
                refine JL_indexAddr i sl22 rfl rfl rfl (by omega) (by first | exact Reads.view (by repeat (first | with_reducible exact mm0 | refine mmS ?_))) (by rw [pcells_length]; omega) ?_
                exact JL_nil (JE_stepV rfl ss0))), OblS_V (fun vals ex ψ => (by
                refine JL_normQ _ (_ :: ψ) rfl rfl ?_
                refine JL_guard_yes rfl rfl ?_
                refine JL_fieldAddrE fo53_0 rfl (by first | exact Reads.view (by repeat (first | with_reducible exact mm0 | refine mmS ?_))) (by rw [pcells_length]; omega) ?_
                exact JL_nil (JE_stepV rfl ss0))), OblS_V (fun vals ex ψ => (by
                refine JL_normQ _ (_ :: ψ) rfl rfl ?_
                refine JL_guard_yes rfl rfl ?_
                refine JL_loadE ty3 rfl (by first | exact Reads.view (by repeat (first | with_reducible exact mm0 | refine mmS ?_))) (pcells_one (by omega)).1 ?_
                exact JL_nil (JE_stepV rfl ss0))), OblS_V (fun vals ex ψ => (by
                refine JL_guard_yes rfl rfl ?_
                refine JL_move rfl ?_
                exact JL_nil (JE_stepV rfl ss0))), OblS_V (fun vals ex ψ => (by
                refine JL_guard_yes rfl rfl ?_
                refine JL_move rfl ?_
                exact JL_nil (JE_stepV rfl ss0))), OblS_V (fun vals ex ψ => (by
                refine JL_normQ _ (_ :: ψ) rfl rfl ?_
                refine JL_guard_yes rfl rfl ?_
                refine JL_indexAddr i sl22 rfl rfl rfl (by omega) (by first | exact Reads.view (by repeat (first | with_reducible exact mm0 | refine mmS ?_))) (by rw [pcells_length]; omega) ?_
                exact JL_nil (JE_stepV rfl ss0))), OblS_V (fun vals ex ψ => (by
                refine JL_normQ _ (_ :: ψ) rfl rfl ?_
                refine JL_guard_yes rfl rfl ?_
                refine JL_fieldAddrE fo53_1 rfl (by first | exact Reads.view (by repeat (first | with_reducible exact mm0 | refine mmS ?_))) (by rw [pcells_length]; omega) ?_
                exact JL_nil (JE_stepV rfl ss0))), OblS_V (fun vals ex ψ => (by
                refine JL_normQ _ (_ :: ψ) rfl rfl ?_
                refine JL_guard_yes rfl rfl ?_
                refine JL_loadE ty3 rfl (by first | exact Reads.view (by repeat (first | with_reducible exact mm0 | refine mmS ?_))) (pcells_one (by omega)).2 ?_
                exact JL_nil (JE_stepV rfl ss0))), OblS_V (fun vals ex ψ => (by
                refine JL_guard_yes rfl rfl ?_
                refine JL_eql rfl rfl ?_
                rw [decide_eq_false (p := (l.getD i dP).1 = (l.getD i dP).2) (by omega)]
                exact JL_nil (JE_stepV rfl ss0))), OblS_V (fun vals ex ψ => (by
                refine JL_pick_f rfl rfl ?_
                exact JL_nil (JE_stepV rfl ss0))), trivial⟩ (by kernel_rfl) (fun vals bs => ?_)
            refine JL_normL [] ⟨115, [(26, _), (27, _), (28, _), (29, _), (30, _), (31, _), (32, _), (33, _), (34, _), (35, _), (36, _), (37, _), (38, _), (39, _), (40, _), (41, _), (42, _), (43, _), (44, _), (45, _), (46, _), (47, _), (48, _), (49, _), (50, _), (51, _), (52, _), (53, _), (54, _), (55, _), (56, _), (57, _), (58, _), (59, _), (60, _), (61, _), (62, _), (63, _), (64, _), (65, _), (66, _), (67, _), (68, _), (69, _), (70, _)], _⟩ [] [_] rfl rfl rfl rfl ?_
            refine JL_done_up 115 [] [_] rfl rfl (by simp only [nrmF]; rfl) rfl rfl ?_
            refine JC_false rfl ?_
            refine JC_skip ?_
            refine JE_then ?_
            refine JC_seq ?_
            rcases arc5 l i with h0 | h0 | h0 | h0 | h0
            · refine JC_drawT mixed 44 [spV 71 [] _, spV 72 [0] _, spV 73 [1] _, spV 74 [2] _, spV 75 [2] _, spV 76 [2, 3, 4] _, spV 77 [2, 5] _, spV 78 [2, 6] _, spV 79 [2] _, spV 80 [2] _, spV 81 [2, 9] _, spV 82 [2, 8, 10] _, spV 83 [2, 11] _, spV 84 [2, 12] _, spV 85 [2, 7, 13] _, spV 86 [2, 14] _, spV 87 [15] _, spV 88 [15] _, spV 89 [15, 16, 17] _, spV 90 [15, 18] _, spV 91 [15, 19] _, spV 92 [15] _, spV 93 [15] _, spV 94 [15, 22] _, spV 95 [15, 21, 23] _, spV 96 [15, 24] _, spV 97 [15, 25] _, spV 98 [15, 20, 26] _, spV 99 [15, 27] _, spV 100 [28] _, spV 101 [28] _, spV 102 [28, 29, 30] _, spV 103 [28, 31] _, spV 104 [28, 32] _, spV 105 [28] _, spV 106 [28] _, spV 107 [28, 35] _, spV 108 [28, 34, 36] _, spV 109 [28, 37] _, spV 110 [28, 38] _, spV 111 [28, 33, 39] _, spV 112 [15, 28, 40] _, spV 113 [2, 15, 41] _, spV 114 [2, 42] _] ⟨OblS_V (fun vals ex ψ => (by
                  refine JL_move rfl ?_
                  exact JL_nil (JE_stepV rfl ss0))), OblS_V (fun vals ex ψ => (by
                  refine JL_gtr rfl rfl ?_
                  rw [decide_eq_false (p := (0 : Int) < (i : Int)) (by omega)]
                  exact JL_nil (JE_stepV rfl ss0))), OblS_V (fun vals ex ψ => (by
                  refine JL_move rfl ?_
                  exact JL_nil (JE_stepV rfl ss0))), OblS_V (fun vals ex ψ => (by
                  refine JL_guard_no rfl rfl ?_
                  exact JL_nil (JE_stepV rfl ss0))), OblS_V (fun vals ex ψ => (by
                  refine JL_guard_no rfl rfl ?_
                  exact JL_nil (JE_stepV rfl ss0))), OblS_V (fun vals ex ψ => (by
                  refine JL_guard_no rfl rfl ?_
                  exact JL_nil (JE_stepV rfl ss0))), OblS_V (fun vals ex ψ => (by
                  refine JL_guard_no rfl rfl ?_
                  exact JL_nil (JE_stepV rfl ss0))), OblS_V (fun vals ex ψ => (by
                  refine JL_guard_no rfl rfl ?_
                  exact JL_nil (JE_stepV rfl ss0))), OblS_V (fun vals ex ψ => (by
                  refine JL_guard_no rfl rfl ?_
                  exact JL_nil (JE_stepV rfl ss0))), OblS_V (fun vals ex ψ => (by
                  refine JL_guard_no rfl rfl ?_
                  exact JL_nil (JE_stepV rfl ss0))), OblS_V (fun vals ex ψ => (by
                  refine JL_guard_no rfl rfl ?_
                  exact JL_nil (JE_stepV rfl ss0))), OblS_V (fun vals ex ψ => (by
                  refine JL_guard_no rfl rfl ?_
                  exact JL_nil (JE_stepV rfl ss0))), OblS_V (fun vals ex ψ => (by
                  refine JL_guard_no rfl rfl ?_
                  exact JL_nil (JE_stepV rfl ss0))), OblS_V (fun vals ex ψ => (by
                  refine JL_guard_no rfl rfl ?_
                  exact JL_nil (JE_stepV rfl ss0))), OblS_V (fun vals ex ψ => (by
                  refine JL_guard_no rfl rfl ?_
                  exact JL_nil (JE_stepV rfl ss0))), OblS_V (fun vals ex ψ => (by
                  refine JL_guard_no rfl rfl ?_
                  exact JL_nil (JE_stepV rfl ss0))), OblS_V (fun vals ex ψ => (by
                  refine JL_guard_un rfl rfl ?_
                  exact JL_nil (JE_stepV rfl ss0))), OblS_V (fun vals ex ψ => (by
                  refine JL_guard_un rfl rfl ?_
                  exact JL_nil (JE_stepV rfl ss0))), OblS_V (fun vals ex ψ => (by
                  refine JL_guard_un rfl rfl ?_
                  exact JL_nil (JE_stepV rfl ss0))), OblS_V (fun vals ex ψ => (by
                  refine JL_guard_un rfl rfl ?_
                  exact JL_nil (JE_stepV rfl ss0))), OblS_V (fun vals ex ψ => (by
                  refine JL_guard_un rfl rfl ?_
                  exact JL_nil (JE_stepV rfl ss0))), OblS_V (fun vals ex ψ => (by
                  refine JL_guard_un rfl rfl ?_
                  exact JL_nil (JE_stepV rfl ss0))), OblS_V (fun vals ex ψ => (by
                  refine JL_guard_un rfl rfl ?_
                  exact JL_nil (JE_stepV rfl ss0))), OblS_V (fun vals ex ψ => (by
                  refine JL_guard_un rfl rfl ?_
                  exact JL_nil (JE_stepV rfl ss0))), OblS_V (fun vals ex ψ => (by
                  refine JL_guard_un rfl rfl ?_
                  exact JL_nil (JE_stepV rfl ss0))), OblS_V (fun vals ex ψ => (by
                  refine JL_guard_un rfl rfl ?_
                  exact JL_nil (JE_stepV rfl ss0))), OblS_V (fun vals ex ψ => (by
                  refine JL_guard_un rfl rfl ?_
                  exact JL_nil (JE_stepV rfl ss0))), OblS_V (fun vals ex ψ => (by
                  refine JL_guard_un rfl rfl ?_
                  exact JL_nil (JE_stepV rfl ss0))), OblS_V (fun vals ex ψ => (by
                  refine JL_guard_un rfl rfl ?_
                  exact JL_nil (JE_stepV rfl ss0))), OblS_V (fun vals ex ψ => (by
                  refine JL_guard_un rfl rfl ?_
                  exact JL_nil (JE_stepV rfl ss0))), OblS_V (fun vals ex ψ => (by
                  refine JL_guard_un rfl rfl ?_
                  exact JL_nil (JE_stepV rfl ss0))), OblS_V (fun vals ex ψ => (by
                  refine JL_guard_un rfl rfl ?_
                  exact JL_nil (JE_stepV rfl ss0))), OblS_V (fun vals ex ψ => (by
                  refine JL_guard_un rfl rfl ?_
                  exact JL_nil (JE_stepV rfl ss0))), OblS_V (fun vals ex ψ => (by
                  refine JL_guard_un rfl rfl ?_
                  exact JL_nil (JE_stepV rfl ss0))), OblS_V (fun vals ex ψ => (by
                  refine JL_guard_un rfl rfl ?_
                  exact JL_nil (JE_stepV rfl ss0))), OblS_V (fun vals ex ψ => (by
                  refine JL_guard_un rfl rfl ?_
                  exact JL_nil (JE_stepV rfl ss0))), OblS_V (fun vals ex ψ => (by
                  refine JL_guard_un rfl rfl ?_
                  exact JL_nil (JE_stepV rfl ss0))), OblS_V (fun vals ex ψ => (by
                  refine JL_guard_un rfl rfl ?_
                  exact JL_nil (JE_stepV rfl ss0))), OblS_V (fun vals ex ψ => (by
                  refine JL_guard_un rfl rfl ?_
                  exact JL_nil (JE_stepV rfl ss0))), OblS_V (fun vals ex ψ => (by
                  refine JL_guard_un rfl rfl ?_
                  exact JL_nil (JE_stepV rfl ss0))), OblS_V (fun vals ex ψ => (by
                  refine JL_guard_un rfl rfl ?_
                  exact JL_nil (JE_stepV rfl ss0))), OblS_V (fun vals ex ψ => (by
                  refine JL_guard_un rfl rfl ?_
                  exact JL_nil (JE_stepV rfl ss0))), OblS_V (fun vals ex ψ => (by
                  refine JL_guard_no rfl rfl ?_
                  exact JL_nil (JE_stepV rfl ss0))), OblS_V (fun vals ex ψ => (by
                  refine JL_pick_f rfl rfl ?_
                  exact JL_nil (JE_stepV rfl ss0))), trivial⟩ (by kernel_rfl) (fun vals bs => ?_)
              refine JL_normL [] ⟨115, [(71, _), (72, _), (73, _), (74, _), (75, _), (76, _), (77, _), (78, _), (79, _), (80, _), (81, _), (82, _), (83, _), (84, _), (85, _), (86, _), (87, _), (88, _), (89, _), (90, _), (91, _), (92, _), (93, _), (94, _), (95, _), (96, _), (97, _), (98, _), (99, _), (100, _), (101, _), (102, _), (103, _), (104, _), (105, _), (106, _), (107, _), (108, _), (109, _), (110, _), (111, _), (112, _), (113, _), (114, _)], _⟩ [] [_] rfl rfl rfl rfl ?_
              refine JL_done_up 115 [] [_] rfl rfl (by simp only [nrmF]; rfl) rfl rfl ?_
              refine JC_false rfl ?_
              refine JC_skip ?_
              refine JE_block_normal ?_
              refine JE_then ?_
              refine JC_region ?_
              refine JL_move rfl ?_
              refine JL_add_to rfl rfl (IntWalk.i64_in _ (by omega)) ?_
              refine JL_assign rfl ?_
              refine JL_nil_up 115 [] [_] rfl rfl (by simp only [nrmF]; rfl) rfl rfl ?_
              refine JE_nextS (i + 1) (by kernel_rfl) ?_ ?_ (by kernel_rfl) ?_
              · exact ⟨by omega, arcNext hj ⟨⟨⟨by omega, by omega⟩, ⟨by omega, by omega⟩, by omega⟩, fun h0 => absurd h0 (by omega)⟩⟩
              · first | omega | (dsimp only; omega)
              · exact subset_app subset_nil ss0
            · refine JC_drawT mixed 44 [spV 71 [] _, spV 72 [0] _, spV 73 [1] _, spV 74 [2] _, spV 75 [2] _, spV 76 [2, 3, 4] _, spV 77 [2, 5] _, spV 78 [2, 6] _, spV 79 [2] _, spV 80 [2] _, spV 81 [2, 9] _, spV 82 [2, 8, 10] _, spV 83 [2, 11] _, spV 84 [2, 12] _, spV 85 [2, 7, 13] _, spV 86 [2, 14] _, spV 87 [15] _, spV 88 [15] _, spV 89 [15, 16, 17] _, spV 90 [15, 18] _, spV 91 [15, 19] _, spV 92 [15] _, spV 93 [15] _, spV 94 [15, 22] _, spV 95 [15, 21, 23] _, spV 96 [15, 24] _, spV 97 [15, 25] _, spV 98 [15, 20, 26] _, spV 99 [15, 27] _, spV 100 [28] _, spV 101 [28] _, spV 102 [28, 29, 30] _, spV 103 [28, 31] _, spV 104 [28, 32] _, spV 105 [28] _, spV 106 [28] _, spV 107 [28, 35] _, spV 108 [28, 34, 36] _, spV 109 [28, 37] _, spV 110 [28, 38] _, spV 111 [28, 33, 39] _, spV 112 [15, 28, 40] _, spV 113 [2, 15, 41] _, spV 114 [2, 42] _] ⟨OblS_V (fun vals ex ψ => (by
                  refine JL_move rfl ?_
                  exact JL_nil (JE_stepV rfl ss0))), OblS_V (fun vals ex ψ => (by
                  refine JL_gtr rfl rfl ?_
                  rw [decide_eq_true (p := (0 : Int) < (i : Int)) (by omega)]
                  exact JL_nil (JE_stepV rfl ss0))), OblS_V (fun vals ex ψ => (by
                  refine JL_move rfl ?_
                  exact JL_nil (JE_stepV rfl ss0))), OblS_V (fun vals ex ψ => (by
                  refine JL_guard_yes rfl rfl ?_
                  refine JL_move rfl ?_
                  exact JL_nil (JE_stepV rfl ss0))), OblS_V (fun vals ex ψ => (by
                  refine JL_guard_yes rfl rfl ?_
                  refine JL_move rfl ?_
                  exact JL_nil (JE_stepV rfl ss0))), OblS_V (fun vals ex ψ => (by
                  refine JL_normQ _ (_ :: ψ) rfl rfl ?_
                  refine JL_guard_yes rfl rfl ?_
                  refine JL_indexAddr i sl22 rfl rfl rfl (by omega) (by first | exact Reads.view (by repeat (first | with_reducible exact mm0 | refine mmS ?_))) (by rw [pcells_length]; omega) ?_
                  exact JL_nil (JE_stepV rfl ss0))), OblS_V (fun vals ex ψ => (by
                  refine JL_normQ _ (_ :: ψ) rfl rfl ?_
                  refine JL_guard_yes rfl rfl ?_
                  refine JL_fieldAddrE fo53_0 rfl (by first | exact Reads.view (by repeat (first | with_reducible exact mm0 | refine mmS ?_))) (by rw [pcells_length]; omega) ?_
                  exact JL_nil (JE_stepV rfl ss0))), OblS_V (fun vals ex ψ => (by
                  refine JL_normQ _ (_ :: ψ) rfl rfl ?_
                  refine JL_guard_yes rfl rfl ?_
                  refine JL_loadE ty3 rfl (by first | exact Reads.view (by repeat (first | with_reducible exact mm0 | refine mmS ?_))) (pcells_one (by omega)).1 ?_
                  exact JL_nil (JE_stepV rfl ss0))), OblS_V (fun vals ex ψ => (by
                  refine JL_guard_yes rfl rfl ?_
                  refine JL_move rfl ?_
                  exact JL_nil (JE_stepV rfl ss0))), OblS_V (fun vals ex ψ => (by
                  refine JL_guard_yes rfl rfl ?_
                  refine JL_move rfl ?_
                  exact JL_nil (JE_stepV rfl ss0))), OblS_V (fun vals ex ψ => (by
                  refine JL_guard_yes rfl rfl ?_
                  refine JL_sub_to rfl rfl (IntWalk.i64_in _ (by omega)) ?_
                  exact JL_nil (JE_stepV rfl ss0))), OblS_V (fun vals ex ψ => (by
                  refine JL_normQ _ (_ :: ψ) rfl rfl ?_
                  refine JL_guard_yes rfl rfl ?_
                  refine JL_indexAddr (i - 1) sl22 rfl rfl (by omega) (by omega) (by first | exact Reads.view (by repeat (first | with_reducible exact mm0 | refine mmS ?_))) (by rw [pcells_length]; omega) ?_
                  exact JL_nil (JE_stepV rfl ss0))), OblS_V (fun vals ex ψ => (by
                  refine JL_normQ _ (_ :: ψ) rfl rfl ?_
                  refine JL_guard_yes rfl rfl ?_
                  refine JL_fieldAddrE fo53_0 rfl (by first | exact Reads.view (by repeat (first | with_reducible exact mm0 | refine mmS ?_))) (by rw [pcells_length]; omega) ?_
                  exact JL_nil (JE_stepV rfl ss0))), OblS_V (fun vals ex ψ => (by
                  refine JL_normQ _ (_ :: ψ) rfl rfl ?_
                  refine JL_guard_yes rfl rfl ?_
                  refine JL_loadE ty3 rfl (by first | exact Reads.view (by repeat (first | with_reducible exact mm0 | refine mmS ?_))) (pcells_one (by omega)).1 ?_
                  exact JL_nil (JE_stepV rfl ss0))), OblS_V (fun vals ex ψ => (by
                  refine JL_guard_yes rfl rfl ?_
                  refine JL_lss rfl rfl ?_
                  rw [decide_eq_true (p := (l.getD i dP).1 < (l.getD (i - 1) dP).1) (by omega)]
                  exact JL_nil (JE_stepV rfl ss0))), OblS_V (fun vals ex ψ => (by
                  refine JL_guard_yes rfl rfl ?_
                  refine JL_move rfl ?_
                  exact JL_nil (JE_stepV rfl ss0))), OblS_V (fun vals ex ψ => (by
                  refine JL_guard_no rfl rfl ?_
                  exact JL_nil (JE_stepV rfl ss0))), OblS_V (fun vals ex ψ => (by
                  refine JL_guard_no rfl rfl ?_
                  exact JL_nil (JE_stepV rfl ss0))), OblS_V (fun vals ex ψ => (by
                  refine JL_guard_no rfl rfl ?_
                  exact JL_nil (JE_stepV rfl ss0))), OblS_V (fun vals ex ψ => (by
                  refine JL_guard_no rfl rfl ?_
                  exact JL_nil (JE_stepV rfl ss0))), OblS_V (fun vals ex ψ => (by
                  refine JL_guard_no rfl rfl ?_
                  exact JL_nil (JE_stepV rfl ss0))), OblS_V (fun vals ex ψ => (by
                  refine JL_guard_no rfl rfl ?_
                  exact JL_nil (JE_stepV rfl ss0))), OblS_V (fun vals ex ψ => (by
                  refine JL_guard_no rfl rfl ?_
                  exact JL_nil (JE_stepV rfl ss0))), OblS_V (fun vals ex ψ => (by
                  refine JL_guard_no rfl rfl ?_
                  exact JL_nil (JE_stepV rfl ss0))), OblS_V (fun vals ex ψ => (by
                  refine JL_guard_no rfl rfl ?_
                  exact JL_nil (JE_stepV rfl ss0))), OblS_V (fun vals ex ψ => (by
                  refine JL_guard_no rfl rfl ?_
                  exact JL_nil (JE_stepV rfl ss0))), OblS_V (fun vals ex ψ => (by
                  refine JL_guard_no rfl rfl ?_
                  exact JL_nil (JE_stepV rfl ss0))), OblS_V (fun vals ex ψ => (by
                  refine JL_guard_no rfl rfl ?_
                  exact JL_nil (JE_stepV rfl ss0))), OblS_V (fun vals ex ψ => (by
                  refine JL_guard_no rfl rfl ?_
                  exact JL_nil (JE_stepV rfl ss0))), OblS_V (fun vals ex ψ => (by
                  refine JL_guard_un rfl rfl ?_
                  exact JL_nil (JE_stepV rfl ss0))), OblS_V (fun vals ex ψ => (by
                  refine JL_guard_un rfl rfl ?_
                  exact JL_nil (JE_stepV rfl ss0))), OblS_V (fun vals ex ψ => (by
                  refine JL_guard_un rfl rfl ?_
                  exact JL_nil (JE_stepV rfl ss0))), OblS_V (fun vals ex ψ => (by
                  refine JL_guard_un rfl rfl ?_
                  exact JL_nil (JE_stepV rfl ss0))), OblS_V (fun vals ex ψ => (by
                  refine JL_guard_un rfl rfl ?_
                  exact JL_nil (JE_stepV rfl ss0))), OblS_V (fun vals ex ψ => (by
                  refine JL_guard_un rfl rfl ?_
                  exact JL_nil (JE_stepV rfl ss0))), OblS_V (fun vals ex ψ => (by
                  refine JL_guard_un rfl rfl ?_
                  exact JL_nil (JE_stepV rfl ss0))), OblS_V (fun vals ex ψ => (by
                  refine JL_guard_un rfl rfl ?_
                  exact JL_nil (JE_stepV rfl ss0))), OblS_V (fun vals ex ψ => (by
                  refine JL_guard_un rfl rfl ?_
                  exact JL_nil (JE_stepV rfl ss0))), OblS_V (fun vals ex ψ => (by
                  refine JL_guard_un rfl rfl ?_
                  exact JL_nil (JE_stepV rfl ss0))), OblS_V (fun vals ex ψ => (by
                  refine JL_guard_un rfl rfl ?_
                  exact JL_nil (JE_stepV rfl ss0))), OblS_V (fun vals ex ψ => (by
                  refine JL_guard_un rfl rfl ?_
                  exact JL_nil (JE_stepV rfl ss0))), OblS_V (fun vals ex ψ => (by
                  refine JL_guard_no rfl rfl ?_
                  exact JL_nil (JE_stepV rfl ss0))), OblS_V (fun vals ex ψ => (by
                  refine JL_guard_yes rfl rfl ?_
                  refine JL_pick_t rfl rfl ?_
                  exact JL_nil (JE_stepV rfl ss0))), OblS_V (fun vals ex ψ => (by
                  refine JL_pick_t rfl rfl ?_
                  exact JL_nil (JE_stepV rfl ss0))), trivial⟩ (by kernel_rfl) (fun vals bs => ?_)
              refine JL_normL [] ⟨115, [(71, _), (72, _), (73, _), (74, _), (75, _), (76, _), (77, _), (78, _), (79, _), (80, _), (81, _), (82, _), (83, _), (84, _), (85, _), (86, _), (87, _), (88, _), (89, _), (90, _), (91, _), (92, _), (93, _), (94, _), (95, _), (96, _), (97, _), (98, _), (99, _), (100, _), (101, _), (102, _), (103, _), (104, _), (105, _), (106, _), (107, _), (108, _), (109, _), (110, _), (111, _), (112, _), (113, _), (114, _)], _⟩ [] [_] rfl rfl rfl rfl ?_
              refine JL_done_up 115 [] [_] rfl rfl (by simp only [nrmF]; rfl) rfl rfl ?_
              refine JC_true rfl ?_
              refine JC_seq ?_
              refine JC_region ?_
              refine JL_assign rfl ?_
              refine JL_done_up 115 [] [_] rfl rfl (by simp only [nrmF]; rfl) rfl rfl ?_
              refine JC_ret ?_
              refine JE_block_ret ?_
              refine JE_then_ret ?_
              refine JE_nextS_ret ?_
              refine JE_block_ret ?_
              refine JE_then_ret ?_
              refine JE_ret (vs := [_]) [] Tryz.results80 ⟨rfl, rfl⟩ ?_ ?_
              · rw [dgC_no (i := i) (by omega) (fun h => by have h1 := h.1; have h2 := h.2; rcases h2 (by omega) with h3 | h3 <;> omega)]; exact ⟨rfl, rfl⟩
              · exact all_nil
            · refine JC_drawT mixed 44 [spV 71 [] _, spV 72 [0] _, spV 73 [1] _, spV 74 [2] _, spV 75 [2] _, spV 76 [2, 3, 4] _, spV 77 [2, 5] _, spV 78 [2, 6] _, spV 79 [2] _, spV 80 [2] _, spV 81 [2, 9] _, spV 82 [2, 8, 10] _, spV 83 [2, 11] _, spV 84 [2, 12] _, spV 85 [2, 7, 13] _, spV 86 [2, 14] _, spV 87 [15] _, spV 88 [15] _, spV 89 [15, 16, 17] _, spV 90 [15, 18] _, spV 91 [15, 19] _, spV 92 [15] _, spV 93 [15] _, spV 94 [15, 22] _, spV 95 [15, 21, 23] _, spV 96 [15, 24] _, spV 97 [15, 25] _, spV 98 [15, 20, 26] _, spV 99 [15, 27] _, spV 100 [28] _, spV 101 [28] _, spV 102 [28, 29, 30] _, spV 103 [28, 31] _, spV 104 [28, 32] _, spV 105 [28] _, spV 106 [28] _, spV 107 [28, 35] _, spV 108 [28, 34, 36] _, spV 109 [28, 37] _, spV 110 [28, 38] _, spV 111 [28, 33, 39] _, spV 112 [15, 28, 40] _, spV 113 [2, 15, 41] _, spV 114 [2, 42] _] ⟨OblS_V (fun vals ex ψ => (by
                  refine JL_move rfl ?_
                  exact JL_nil (JE_stepV rfl ss0))), OblS_V (fun vals ex ψ => (by
                  refine JL_gtr rfl rfl ?_
                  rw [decide_eq_true (p := (0 : Int) < (i : Int)) (by omega)]
                  exact JL_nil (JE_stepV rfl ss0))), OblS_V (fun vals ex ψ => (by
                  refine JL_move rfl ?_
                  exact JL_nil (JE_stepV rfl ss0))), OblS_V (fun vals ex ψ => (by
                  refine JL_guard_yes rfl rfl ?_
                  refine JL_move rfl ?_
                  exact JL_nil (JE_stepV rfl ss0))), OblS_V (fun vals ex ψ => (by
                  refine JL_guard_yes rfl rfl ?_
                  refine JL_move rfl ?_
                  exact JL_nil (JE_stepV rfl ss0))), OblS_V (fun vals ex ψ => (by
                  refine JL_normQ _ (_ :: ψ) rfl rfl ?_
                  refine JL_guard_yes rfl rfl ?_
                  refine JL_indexAddr i sl22 rfl rfl rfl (by omega) (by first | exact Reads.view (by repeat (first | with_reducible exact mm0 | refine mmS ?_))) (by rw [pcells_length]; omega) ?_
                  exact JL_nil (JE_stepV rfl ss0))), OblS_V (fun vals ex ψ => (by
                  refine JL_normQ _ (_ :: ψ) rfl rfl ?_
                  refine JL_guard_yes rfl rfl ?_
                  refine JL_fieldAddrE fo53_0 rfl (by first | exact Reads.view (by repeat (first | with_reducible exact mm0 | refine mmS ?_))) (by rw [pcells_length]; omega) ?_
                  exact JL_nil (JE_stepV rfl ss0))), OblS_V (fun vals ex ψ => (by
                  refine JL_normQ _ (_ :: ψ) rfl rfl ?_
                  refine JL_guard_yes rfl rfl ?_
                  refine JL_loadE ty3 rfl (by first | exact Reads.view (by repeat (first | with_reducible exact mm0 | refine mmS ?_))) (pcells_one (by omega)).1 ?_
                  exact JL_nil (JE_stepV rfl ss0))), OblS_V (fun vals ex ψ => (by
                  refine JL_guard_yes rfl rfl ?_
                  refine JL_move rfl ?_
                  exact JL_nil (JE_stepV rfl ss0))), OblS_V (fun vals ex ψ => (by
                  refine JL_guard_yes rfl rfl ?_
                  refine JL_move rfl ?_
                  exact JL_nil (JE_stepV rfl ss0))), OblS_V (fun vals ex ψ => (by
                  refine JL_guard_yes rfl rfl ?_
                  refine JL_sub_to rfl rfl (IntWalk.i64_in _ (by omega)) ?_
                  exact JL_nil (JE_stepV rfl ss0))), OblS_V (fun vals ex ψ => (by
                  refine JL_normQ _ (_ :: ψ) rfl rfl ?_
                  refine JL_guard_yes rfl rfl ?_
                  refine JL_indexAddr (i - 1) sl22 rfl rfl (by omega) (by omega) (by first | exact Reads.view (by repeat (first | with_reducible exact mm0 | refine mmS ?_))) (by rw [pcells_length]; omega) ?_
                  exact JL_nil (JE_stepV rfl ss0))), OblS_V (fun vals ex ψ => (by
                  refine JL_normQ _ (_ :: ψ) rfl rfl ?_
                  refine JL_guard_yes rfl rfl ?_
                  refine JL_fieldAddrE fo53_0 rfl (by first | exact Reads.view (by repeat (first | with_reducible exact mm0 | refine mmS ?_))) (by rw [pcells_length]; omega) ?_
                  exact JL_nil (JE_stepV rfl ss0))), OblS_V (fun vals ex ψ => (by
                  refine JL_normQ _ (_ :: ψ) rfl rfl ?_
                  refine JL_guard_yes rfl rfl ?_
                  refine JL_loadE ty3 rfl (by first | exact Reads.view (by repeat (first | with_reducible exact mm0 | refine mmS ?_))) (pcells_one (by omega)).1 ?_
                  exact JL_nil (JE_stepV rfl ss0))), OblS_V (fun vals ex ψ => (by
                  refine JL_guard_yes rfl rfl ?_
                  refine JL_lss rfl rfl ?_
                  rw [decide_eq_false (p := (l.getD i dP).1 < (l.getD (i - 1) dP).1) (by omega)]
                  exact JL_nil (JE_stepV rfl ss0))), OblS_V (fun vals ex ψ => (by
                  refine JL_guard_yes rfl rfl ?_
                  refine JL_move rfl ?_
                  exact JL_nil (JE_stepV rfl ss0))), OblS_V (fun vals ex ψ => (by
                  refine JL_guard_yes rfl rfl ?_
                  refine JL_move rfl ?_
                  exact JL_nil (JE_stepV rfl ss0))), OblS_V (fun vals ex ψ => (by
                  refine JL_guard_yes rfl rfl ?_
                  refine JL_move rfl ?_
                  exact JL_nil (JE_stepV rfl ss0))), OblS_V (fun vals ex ψ => (by
                  refine JL_normQ _ (_ :: ψ) rfl rfl ?_
                  refine JL_guard_yes rfl rfl ?_
                  refine JL_indexAddr i sl22 rfl rfl rfl (by omega) (by first | exact Reads.view (by repeat (first | with_reducible exact mm0 | refine mmS ?_))) (by rw [pcells_length]; omega) ?_
                  exact JL_nil (JE_stepV rfl ss0))), OblS_V (fun vals ex ψ => (by
                  refine JL_normQ _ (_ :: ψ) rfl rfl ?_
                  refine JL_guard_yes rfl rfl ?_
                  refine JL_fieldAddrE fo53_0 rfl (by first | exact Reads.view (by repeat (first | with_reducible exact mm0 | refine mmS ?_))) (by rw [pcells_length]; omega) ?_
                  exact JL_nil (JE_stepV rfl ss0))), OblS_V (fun vals ex ψ => (by
                  refine JL_normQ _ (_ :: ψ) rfl rfl ?_
                  refine JL_guard_yes rfl rfl ?_
                  refine JL_loadE ty3 rfl (by first | exact Reads.view (by repeat (first | with_reducible exact mm0 | refine mmS ?_))) (pcells_one (by omega)).1 ?_
                  exact JL_nil (JE_stepV rfl ss0))), OblS_V (fun vals ex ψ => (by
                  refine JL_guard_yes rfl rfl ?_
                  refine JL_move rfl ?_
                  exact JL_nil (JE_stepV rfl ss0))), OblS_V (fun vals ex ψ => (by
                  refine JL_guard_yes rfl rfl ?_
                  refine JL_move rfl ?_
                  exact JL_nil (JE_stepV rfl ss0))), OblS_V (fun vals ex ψ => (by
                  refine JL_guard_yes rfl rfl ?_
                  refine JL_sub_to rfl rfl (IntWalk.i64_in _ (by omega)) ?_
                  exact JL_nil (JE_stepV rfl ss0))), OblS_V (fun vals ex ψ => (by
                  refine JL_normQ _ (_ :: ψ) rfl rfl ?_
                  refine JL_guard_yes rfl rfl ?_
                  refine JL_indexAddr (i - 1) sl22 rfl rfl (by omega) (by omega) (by first | exact Reads.view (by repeat (first | with_reducible exact mm0 | refine mmS ?_))) (by rw [pcells_length]; omega) ?_
                  exact JL_nil (JE_stepV rfl ss0))), OblS_V (fun vals ex ψ => (by
                  refine JL_normQ _ (_ :: ψ) rfl rfl ?_
                  refine JL_guard_yes rfl rfl ?_
                  refine JL_fieldAddrE fo53_0 rfl (by first | exact Reads.view (by repeat (first | with_reducible exact mm0 | refine mmS ?_))) (by rw [pcells_length]; omega) ?_
                  exact JL_nil (JE_stepV rfl ss0))), OblS_V (fun vals ex ψ => (by
                  refine JL_normQ _ (_ :: ψ) rfl rfl ?_
                  refine JL_guard_yes rfl rfl ?_
                  refine JL_loadE ty3 rfl (by first | exact Reads.view (by repeat (first | with_reducible exact mm0 | refine mmS ?_))) (pcells_one (by omega)).1 ?_
                  exact JL_nil (JE_stepV rfl ss0))), OblS_V (fun vals ex ψ => (by
                  refine JL_guard_yes rfl rfl ?_
                  refine JL_eql rfl rfl ?_
                  rw [decide_eq_false (p := (l.getD i dP).1 = (l.getD (i - 1) dP).1) (by omega)]
                  exact JL_nil (JE_stepV rfl ss0))), OblS_V (fun vals ex ψ => (by
                  refine JL_guard_yes rfl rfl ?_
                  refine JL_move rfl ?_
                  exact JL_nil (JE_stepV rfl ss0))), OblS_V (fun vals ex ψ => (by
                  refine JL_guard_no rfl rfl ?_
                  exact JL_nil (JE_stepV rfl ss0))), OblS_V (fun vals ex ψ => (by
                  refine JL_guard_no rfl rfl ?_
                  exact JL_nil (JE_stepV rfl ss0))), OblS_V (fun vals ex ψ => (by
                  refine JL_guard_no rfl rfl ?_
                  exact JL_nil (JE_stepV rfl ss0))), OblS_V (fun vals ex ψ => (by
                  refine JL_guard_no rfl rfl ?_
                  exact JL_nil (JE_stepV rfl ss0))), OblS_V (fun vals ex ψ => (by
                  refine JL_guard_no rfl rfl ?_
                  exact JL_nil (JE_stepV rfl ss0))), OblS_V (fun vals ex ψ => (by
                  refine JL_guard_no rfl rfl ?_
                  exact JL_nil (JE_stepV rfl ss0))), OblS_V (fun vals ex ψ => (by
                  refine JL_guard_no rfl rfl ?_
                  exact JL_nil (JE_stepV rfl ss0))), OblS_V (fun vals ex ψ => (by
                  refine JL_guard_no rfl rfl ?_
                  exact JL_nil (JE_stepV rfl ss0))), OblS_V (fun vals ex ψ => (by
                  refine JL_guard_no rfl rfl ?_
                  exact JL_nil (JE_stepV rfl ss0))), OblS_V (fun vals ex ψ => (by
                  refine JL_guard_no rfl rfl ?_
                  exact JL_nil (JE_stepV rfl ss0))), OblS_V (fun vals ex ψ => (by
                  refine JL_guard_no rfl rfl ?_
                  exact JL_nil (JE_stepV rfl ss0))), OblS_V (fun vals ex ψ => (by
                  refine JL_guard_no rfl rfl ?_
                  exact JL_nil (JE_stepV rfl ss0))), OblS_V (fun vals ex ψ => (by
                  refine JL_guard_yes rfl rfl ?_
                  refine JL_pick_f rfl rfl ?_
                  exact JL_nil (JE_stepV rfl ss0))), OblS_V (fun vals ex ψ => (by
                  refine JL_guard_yes rfl rfl ?_
                  refine JL_pick_f rfl rfl ?_
                  exact JL_nil (JE_stepV rfl ss0))), OblS_V (fun vals ex ψ => (by
                  refine JL_pick_t rfl rfl ?_
                  exact JL_nil (JE_stepV rfl ss0))), trivial⟩ (by kernel_rfl) (fun vals bs => ?_)
              refine JL_normL [] ⟨115, [(71, _), (72, _), (73, _), (74, _), (75, _), (76, _), (77, _), (78, _), (79, _), (80, _), (81, _), (82, _), (83, _), (84, _), (85, _), (86, _), (87, _), (88, _), (89, _), (90, _), (91, _), (92, _), (93, _), (94, _), (95, _), (96, _), (97, _), (98, _), (99, _), (100, _), (101, _), (102, _), (103, _), (104, _), (105, _), (106, _), (107, _), (108, _), (109, _), (110, _), (111, _), (112, _), (113, _), (114, _)], _⟩ [] [_] rfl rfl rfl rfl ?_
              refine JL_done_up 115 [] [_] rfl rfl (by simp only [nrmF]; rfl) rfl rfl ?_
              refine JC_false rfl ?_
              refine JC_skip ?_
              refine JE_block_normal ?_
              refine JE_then ?_
              refine JC_region ?_
              refine JL_move rfl ?_
              refine JL_add_to rfl rfl (IntWalk.i64_in _ (by omega)) ?_
              refine JL_assign rfl ?_
              refine JL_nil_up 115 [] [_] rfl rfl (by simp only [nrmF]; rfl) rfl rfl ?_
              refine JE_nextS (i + 1) (by kernel_rfl) ?_ ?_ (by kernel_rfl) ?_
              · exact ⟨by omega, arcNext hj ⟨⟨⟨by omega, by omega⟩, ⟨by omega, by omega⟩, by omega⟩, fun h0 => .inl (by omega)⟩⟩
              · first | omega | (dsimp only; omega)
              · exact subset_app subset_nil ss0
            · refine JC_drawT mixed 44 [spV 71 [] _, spV 72 [0] _, spV 73 [1] _, spV 74 [2] _, spV 75 [2] _, spV 76 [2, 3, 4] _, spV 77 [2, 5] _, spV 78 [2, 6] _, spV 79 [2] _, spV 80 [2] _, spV 81 [2, 9] _, spV 82 [2, 8, 10] _, spV 83 [2, 11] _, spV 84 [2, 12] _, spV 85 [2, 7, 13] _, spV 86 [2, 14] _, spV 87 [15] _, spV 88 [15] _, spV 89 [15, 16, 17] _, spV 90 [15, 18] _, spV 91 [15, 19] _, spV 92 [15] _, spV 93 [15] _, spV 94 [15, 22] _, spV 95 [15, 21, 23] _, spV 96 [15, 24] _, spV 97 [15, 25] _, spV 98 [15, 20, 26] _, spV 99 [15, 27] _, spV 100 [28] _, spV 101 [28] _, spV 102 [28, 29, 30] _, spV 103 [28, 31] _, spV 104 [28, 32] _, spV 105 [28] _, spV 106 [28] _, spV 107 [28, 35] _, spV 108 [28, 34, 36] _, spV 109 [28, 37] _, spV 110 [28, 38] _, spV 111 [28, 33, 39] _, spV 112 [15, 28, 40] _, spV 113 [2, 15, 41] _, spV 114 [2, 42] _] ⟨OblS_V (fun vals ex ψ => (by
                  refine JL_move rfl ?_
                  exact JL_nil (JE_stepV rfl ss0))), OblS_V (fun vals ex ψ => (by
                  refine JL_gtr rfl rfl ?_
                  rw [decide_eq_true (p := (0 : Int) < (i : Int)) (by omega)]
                  exact JL_nil (JE_stepV rfl ss0))), OblS_V (fun vals ex ψ => (by
                  refine JL_move rfl ?_
                  exact JL_nil (JE_stepV rfl ss0))), OblS_V (fun vals ex ψ => (by
                  refine JL_guard_yes rfl rfl ?_
                  refine JL_move rfl ?_
                  exact JL_nil (JE_stepV rfl ss0))), OblS_V (fun vals ex ψ => (by
                  refine JL_guard_yes rfl rfl ?_
                  refine JL_move rfl ?_
                  exact JL_nil (JE_stepV rfl ss0))), OblS_V (fun vals ex ψ => (by
                  refine JL_normQ _ (_ :: ψ) rfl rfl ?_
                  refine JL_guard_yes rfl rfl ?_
                  refine JL_indexAddr i sl22 rfl rfl rfl (by omega) (by first | exact Reads.view (by repeat (first | with_reducible exact mm0 | refine mmS ?_))) (by rw [pcells_length]; omega) ?_
                  exact JL_nil (JE_stepV rfl ss0))), OblS_V (fun vals ex ψ => (by
                  refine JL_normQ _ (_ :: ψ) rfl rfl ?_
                  refine JL_guard_yes rfl rfl ?_
                  refine JL_fieldAddrE fo53_0 rfl (by first | exact Reads.view (by repeat (first | with_reducible exact mm0 | refine mmS ?_))) (by rw [pcells_length]; omega) ?_
                  exact JL_nil (JE_stepV rfl ss0))), OblS_V (fun vals ex ψ => (by
                  refine JL_normQ _ (_ :: ψ) rfl rfl ?_
                  refine JL_guard_yes rfl rfl ?_
                  refine JL_loadE ty3 rfl (by first | exact Reads.view (by repeat (first | with_reducible exact mm0 | refine mmS ?_))) (pcells_one (by omega)).1 ?_
                  exact JL_nil (JE_stepV rfl ss0))), OblS_V (fun vals ex ψ => (by
                  refine JL_guard_yes rfl rfl ?_
                  refine JL_move rfl ?_
                  exact JL_nil (JE_stepV rfl ss0))), OblS_V (fun vals ex ψ => (by
                  refine JL_guard_yes rfl rfl ?_
                  refine JL_move rfl ?_
                  exact JL_nil (JE_stepV rfl ss0))), OblS_V (fun vals ex ψ => (by
                  refine JL_guard_yes rfl rfl ?_
                  refine JL_sub_to rfl rfl (IntWalk.i64_in _ (by omega)) ?_
                  exact JL_nil (JE_stepV rfl ss0))), OblS_V (fun vals ex ψ => (by
                  refine JL_normQ _ (_ :: ψ) rfl rfl ?_
                  refine JL_guard_yes rfl rfl ?_
                  refine JL_indexAddr (i - 1) sl22 rfl rfl (by omega) (by omega) (by first | exact Reads.view (by repeat (first | with_reducible exact mm0 | refine mmS ?_))) (by rw [pcells_length]; omega) ?_
                  exact JL_nil (JE_stepV rfl ss0))), OblS_V (fun vals ex ψ => (by
                  refine JL_normQ _ (_ :: ψ) rfl rfl ?_
                  refine JL_guard_yes rfl rfl ?_
                  refine JL_fieldAddrE fo53_0 rfl (by first | exact Reads.view (by repeat (first | with_reducible exact mm0 | refine mmS ?_))) (by rw [pcells_length]; omega) ?_
                  exact JL_nil (JE_stepV rfl ss0))), OblS_V (fun vals ex ψ => (by
                  refine JL_normQ _ (_ :: ψ) rfl rfl ?_
                  refine JL_guard_yes rfl rfl ?_
                  refine JL_loadE ty3 rfl (by first | exact Reads.view (by repeat (first | with_reducible exact mm0 | refine mmS ?_))) (pcells_one (by omega)).1 ?_
                  exact JL_nil (JE_stepV rfl ss0))), OblS_V (fun vals ex ψ => (by
                  refine JL_guard_yes rfl rfl ?_
                  refine JL_lss rfl rfl ?_
                  rw [decide_eq_false (p := (l.getD i dP).1 < (l.getD (i - 1) dP).1) (by omega)]
                  exact JL_nil (JE_stepV rfl ss0))), OblS_V (fun vals ex ψ => (by
                  refine JL_guard_yes rfl rfl ?_
                  refine JL_move rfl ?_
                  exact JL_nil (JE_stepV rfl ss0))), OblS_V (fun vals ex ψ => (by
                  refine JL_guard_yes rfl rfl ?_
                  refine JL_move rfl ?_
                  exact JL_nil (JE_stepV rfl ss0))), OblS_V (fun vals ex ψ => (by
                  refine JL_guard_yes rfl rfl ?_
                  refine JL_move rfl ?_
                  exact JL_nil (JE_stepV rfl ss0))), OblS_V (fun vals ex ψ => (by
                  refine JL_normQ _ (_ :: ψ) rfl rfl ?_
                  refine JL_guard_yes rfl rfl ?_
                  refine JL_indexAddr i sl22 rfl rfl rfl (by omega) (by first | exact Reads.view (by repeat (first | with_reducible exact mm0 | refine mmS ?_))) (by rw [pcells_length]; omega) ?_
                  exact JL_nil (JE_stepV rfl ss0))), OblS_V (fun vals ex ψ => (by
                  refine JL_normQ _ (_ :: ψ) rfl rfl ?_
                  refine JL_guard_yes rfl rfl ?_
                  refine JL_fieldAddrE fo53_0 rfl (by first | exact Reads.view (by repeat (first | with_reducible exact mm0 | refine mmS ?_))) (by rw [pcells_length]; omega) ?_
                  exact JL_nil (JE_stepV rfl ss0))), OblS_V (fun vals ex ψ => (by
                  refine JL_normQ _ (_ :: ψ) rfl rfl ?_
                  refine JL_guard_yes rfl rfl ?_
                  refine JL_loadE ty3 rfl (by first | exact Reads.view (by repeat (first | with_reducible exact mm0 | refine mmS ?_))) (pcells_one (by omega)).1 ?_
                  exact JL_nil (JE_stepV rfl ss0))), OblS_V (fun vals ex ψ => (by
                  refine JL_guard_yes rfl rfl ?_
                  refine JL_move rfl ?_
                  exact JL_nil (JE_stepV rfl ss0))), OblS_V (fun vals ex ψ => (by
                  refine JL_guard_yes rfl rfl ?_
                  refine JL_move rfl ?_
                  exact JL_nil (JE_stepV rfl ss0))), OblS_V (fun vals ex ψ => (by
                  refine JL_guard_yes rfl rfl ?_
                  refine JL_sub_to rfl rfl (IntWalk.i64_in _ (by omega)) ?_
                  exact JL_nil (JE_stepV rfl ss0))), OblS_V (fun vals ex ψ => (by
                  refine JL_normQ _ (_ :: ψ) rfl rfl ?_
                  refine JL_guard_yes rfl rfl ?_
                  refine JL_indexAddr (i - 1) sl22 rfl rfl (by omega) (by omega) (by first | exact Reads.view (by repeat (first | with_reducible exact mm0 | refine mmS ?_))) (by rw [pcells_length]; omega) ?_
                  exact JL_nil (JE_stepV rfl ss0))), OblS_V (fun vals ex ψ => (by
                  refine JL_normQ _ (_ :: ψ) rfl rfl ?_
                  refine JL_guard_yes rfl rfl ?_
                  refine JL_fieldAddrE fo53_0 rfl (by first | exact Reads.view (by repeat (first | with_reducible exact mm0 | refine mmS ?_))) (by rw [pcells_length]; omega) ?_
                  exact JL_nil (JE_stepV rfl ss0))), OblS_V (fun vals ex ψ => (by
                  refine JL_normQ _ (_ :: ψ) rfl rfl ?_
                  refine JL_guard_yes rfl rfl ?_
                  refine JL_loadE ty3 rfl (by first | exact Reads.view (by repeat (first | with_reducible exact mm0 | refine mmS ?_))) (pcells_one (by omega)).1 ?_
                  exact JL_nil (JE_stepV rfl ss0))), OblS_V (fun vals ex ψ => (by
                  refine JL_guard_yes rfl rfl ?_
                  refine JL_eql rfl rfl ?_
                  rw [decide_eq_true (p := (l.getD i dP).1 = (l.getD (i - 1) dP).1) (by omega)]
                  exact JL_nil (JE_stepV rfl ss0))), OblS_V (fun vals ex ψ => (by
                  refine JL_guard_yes rfl rfl ?_
                  refine JL_move rfl ?_
                  exact JL_nil (JE_stepV rfl ss0))), OblS_V (fun vals ex ψ => (by
                  refine JL_guard_yes rfl rfl ?_
                  refine JL_move rfl ?_
                  exact JL_nil (JE_stepV rfl ss0))), OblS_V (fun vals ex ψ => (by
                  refine JL_guard_yes rfl rfl ?_
                  refine JL_move rfl ?_
                  exact JL_nil (JE_stepV rfl ss0))), OblS_V (fun vals ex ψ => (by
                  refine JL_normQ _ (_ :: ψ) rfl rfl ?_
                  refine JL_guard_yes rfl rfl ?_
                  refine JL_indexAddr i sl22 rfl rfl rfl (by omega) (by first | exact Reads.view (by repeat (first | with_reducible exact mm0 | refine mmS ?_))) (by rw [pcells_length]; omega) ?_
                  exact JL_nil (JE_stepV rfl ss0))), OblS_V (fun vals ex ψ => (by
                  refine JL_normQ _ (_ :: ψ) rfl rfl ?_
                  refine JL_guard_yes rfl rfl ?_
                  refine JL_fieldAddrE fo53_1 rfl (by first | exact Reads.view (by repeat (first | with_reducible exact mm0 | refine mmS ?_))) (by rw [pcells_length]; omega) ?_
                  exact JL_nil (JE_stepV rfl ss0))), OblS_V (fun vals ex ψ => (by
                  refine JL_normQ _ (_ :: ψ) rfl rfl ?_
                  refine JL_guard_yes rfl rfl ?_
                  refine JL_loadE ty3 rfl (by first | exact Reads.view (by repeat (first | with_reducible exact mm0 | refine mmS ?_))) (pcells_one (by omega)).2 ?_
                  exact JL_nil (JE_stepV rfl ss0))), OblS_V (fun vals ex ψ => (by
                  refine JL_guard_yes rfl rfl ?_
                  refine JL_move rfl ?_
                  exact JL_nil (JE_stepV rfl ss0))), OblS_V (fun vals ex ψ => (by
                  refine JL_guard_yes rfl rfl ?_
                  refine JL_move rfl ?_
                  exact JL_nil (JE_stepV rfl ss0))), OblS_V (fun vals ex ψ => (by
                  refine JL_guard_yes rfl rfl ?_
                  refine JL_sub_to rfl rfl (IntWalk.i64_in _ (by omega)) ?_
                  exact JL_nil (JE_stepV rfl ss0))), OblS_V (fun vals ex ψ => (by
                  refine JL_normQ _ (_ :: ψ) rfl rfl ?_
                  refine JL_guard_yes rfl rfl ?_
                  refine JL_indexAddr (i - 1) sl22 rfl rfl (by omega) (by omega) (by first | exact Reads.view (by repeat (first | with_reducible exact mm0 | refine mmS ?_))) (by rw [pcells_length]; omega) ?_
                  exact JL_nil (JE_stepV rfl ss0))), OblS_V (fun vals ex ψ => (by
                  refine JL_normQ _ (_ :: ψ) rfl rfl ?_
                  refine JL_guard_yes rfl rfl ?_
                  refine JL_fieldAddrE fo53_1 rfl (by first | exact Reads.view (by repeat (first | with_reducible exact mm0 | refine mmS ?_))) (by rw [pcells_length]; omega) ?_
                  exact JL_nil (JE_stepV rfl ss0))), OblS_V (fun vals ex ψ => (by
                  refine JL_normQ _ (_ :: ψ) rfl rfl ?_
                  refine JL_guard_yes rfl rfl ?_
                  refine JL_loadE ty3 rfl (by first | exact Reads.view (by repeat (first | with_reducible exact mm0 | refine mmS ?_))) (pcells_one (by omega)).2 ?_
                  exact JL_nil (JE_stepV rfl ss0))), OblS_V (fun vals ex ψ => (by
                  refine JL_guard_yes rfl rfl ?_
                  refine JL_leq rfl rfl ?_
                  rw [decide_eq_true (p := (l.getD i dP).2 ≤ (l.getD (i - 1) dP).2) (by omega)]
                  exact JL_nil (JE_stepV rfl ss0))), OblS_V (fun vals ex ψ => (by
                  refine JL_guard_yes rfl rfl ?_
                  refine JL_pick_t rfl rfl ?_
                  exact JL_nil (JE_stepV rfl ss0))), OblS_V (fun vals ex ψ => (by
                  refine JL_guard_yes rfl rfl ?_
                  refine JL_pick_f rfl rfl ?_
                  exact JL_nil (JE_stepV rfl ss0))), OblS_V (fun vals ex ψ => (by
                  refine JL_pick_t rfl rfl ?_
                  exact JL_nil (JE_stepV rfl ss0))), trivial⟩ (by kernel_rfl) (fun vals bs => ?_)
              refine JL_normL [] ⟨115, [(71, _), (72, _), (73, _), (74, _), (75, _), (76, _), (77, _), (78, _), (79, _), (80, _), (81, _), (82, _), (83, _), (84, _), (85, _), (86, _), (87, _), (88, _), (89, _), (90, _), (91, _), (92, _), (93, _), (94, _), (95, _), (96, _), (97, _), (98, _), (99, _), (100, _), (101, _), (102, _), (103, _), (104, _), (105, _), (106, _), (107, _), (108, _), (109, _), (110, _), (111, _), (112, _), (113, _), (114, _)], _⟩ [] [_] rfl rfl rfl rfl ?_
              refine JL_done_up 115 [] [_] rfl rfl (by simp only [nrmF]; rfl) rfl rfl ?_
              refine JC_true rfl ?_
              refine JC_seq ?_
              refine JC_region ?_
              refine JL_assign rfl ?_
              refine JL_done_up 115 [] [_] rfl rfl (by simp only [nrmF]; rfl) rfl rfl ?_
              refine JC_ret ?_
              refine JE_block_ret ?_
              refine JE_then_ret ?_
              refine JE_nextS_ret ?_
              refine JE_block_ret ?_
              refine JE_then_ret ?_
              refine JE_ret (vs := [_]) [] Tryz.results80 ⟨rfl, rfl⟩ ?_ ?_
              · rw [dgC_no (i := i) (by omega) (fun h => by have h1 := h.1; have h2 := h.2; rcases h2 (by omega) with h3 | h3 <;> omega)]; exact ⟨rfl, rfl⟩
              · exact all_nil
            · refine JC_drawT mixed 44 [spV 71 [] _, spV 72 [0] _, spV 73 [1] _, spV 74 [2] _, spV 75 [2] _, spV 76 [2, 3, 4] _, spV 77 [2, 5] _, spV 78 [2, 6] _, spV 79 [2] _, spV 80 [2] _, spV 81 [2, 9] _, spV 82 [2, 8, 10] _, spV 83 [2, 11] _, spV 84 [2, 12] _, spV 85 [2, 7, 13] _, spV 86 [2, 14] _, spV 87 [15] _, spV 88 [15] _, spV 89 [15, 16, 17] _, spV 90 [15, 18] _, spV 91 [15, 19] _, spV 92 [15] _, spV 93 [15] _, spV 94 [15, 22] _, spV 95 [15, 21, 23] _, spV 96 [15, 24] _, spV 97 [15, 25] _, spV 98 [15, 20, 26] _, spV 99 [15, 27] _, spV 100 [28] _, spV 101 [28] _, spV 102 [28, 29, 30] _, spV 103 [28, 31] _, spV 104 [28, 32] _, spV 105 [28] _, spV 106 [28] _, spV 107 [28, 35] _, spV 108 [28, 34, 36] _, spV 109 [28, 37] _, spV 110 [28, 38] _, spV 111 [28, 33, 39] _, spV 112 [15, 28, 40] _, spV 113 [2, 15, 41] _, spV 114 [2, 42] _] ⟨OblS_V (fun vals ex ψ => (by
                  refine JL_move rfl ?_
                  exact JL_nil (JE_stepV rfl ss0))), OblS_V (fun vals ex ψ => (by
                  refine JL_gtr rfl rfl ?_
                  rw [decide_eq_true (p := (0 : Int) < (i : Int)) (by omega)]
                  exact JL_nil (JE_stepV rfl ss0))), OblS_V (fun vals ex ψ => (by
                  refine JL_move rfl ?_
                  exact JL_nil (JE_stepV rfl ss0))), OblS_V (fun vals ex ψ => (by
                  refine JL_guard_yes rfl rfl ?_
                  refine JL_move rfl ?_
                  exact JL_nil (JE_stepV rfl ss0))), OblS_V (fun vals ex ψ => (by
                  refine JL_guard_yes rfl rfl ?_
                  refine JL_move rfl ?_
                  exact JL_nil (JE_stepV rfl ss0))), OblS_V (fun vals ex ψ => (by
                  refine JL_normQ _ (_ :: ψ) rfl rfl ?_
                  refine JL_guard_yes rfl rfl ?_
                  refine JL_indexAddr i sl22 rfl rfl rfl (by omega) (by first | exact Reads.view (by repeat (first | with_reducible exact mm0 | refine mmS ?_))) (by rw [pcells_length]; omega) ?_
                  exact JL_nil (JE_stepV rfl ss0))), OblS_V (fun vals ex ψ => (by
                  refine JL_normQ _ (_ :: ψ) rfl rfl ?_
                  refine JL_guard_yes rfl rfl ?_
                  refine JL_fieldAddrE fo53_0 rfl (by first | exact Reads.view (by repeat (first | with_reducible exact mm0 | refine mmS ?_))) (by rw [pcells_length]; omega) ?_
                  exact JL_nil (JE_stepV rfl ss0))), OblS_V (fun vals ex ψ => (by
                  refine JL_normQ _ (_ :: ψ) rfl rfl ?_
                  refine JL_guard_yes rfl rfl ?_
                  refine JL_loadE ty3 rfl (by first | exact Reads.view (by repeat (first | with_reducible exact mm0 | refine mmS ?_))) (pcells_one (by omega)).1 ?_
                  exact JL_nil (JE_stepV rfl ss0))), OblS_V (fun vals ex ψ => (by
                  refine JL_guard_yes rfl rfl ?_
                  refine JL_move rfl ?_
                  exact JL_nil (JE_stepV rfl ss0))), OblS_V (fun vals ex ψ => (by
                  refine JL_guard_yes rfl rfl ?_
                  refine JL_move rfl ?_
                  exact JL_nil (JE_stepV rfl ss0))), OblS_V (fun vals ex ψ => (by
                  refine JL_guard_yes rfl rfl ?_
                  refine JL_sub_to rfl rfl (IntWalk.i64_in _ (by omega)) ?_
                  exact JL_nil (JE_stepV rfl ss0))), OblS_V (fun vals ex ψ => (by
                  refine JL_normQ _ (_ :: ψ) rfl rfl ?_
                  refine JL_guard_yes rfl rfl ?_
                  refine JL_indexAddr (i - 1) sl22 rfl rfl (by omega) (by omega) (by first | exact Reads.view (by repeat (first | with_reducible exact mm0 | refine mmS ?_))) (by rw [pcells_length]; omega) ?_
                  exact JL_nil (JE_stepV rfl ss0))), OblS_V (fun vals ex ψ => (by
                  refine JL_normQ _ (_ :: ψ) rfl rfl ?_
                  refine JL_guard_yes rfl rfl ?_
                  refine JL_fieldAddrE fo53_0 rfl (by first | exact Reads.view (by repeat (first | with_reducible exact mm0 | refine mmS ?_))) (by rw [pcells_length]; omega) ?_
                  exact JL_nil (JE_stepV rfl ss0))), OblS_V (fun vals ex ψ => (by
                  refine JL_normQ _ (_ :: ψ) rfl rfl ?_
                  refine JL_guard_yes rfl rfl ?_
                  refine JL_loadE ty3 rfl (by first | exact Reads.view (by repeat (first | with_reducible exact mm0 | refine mmS ?_))) (pcells_one (by omega)).1 ?_
                  exact JL_nil (JE_stepV rfl ss0))), OblS_V (fun vals ex ψ => (by
                  refine JL_guard_yes rfl rfl ?_
                  refine JL_lss rfl rfl ?_
                  rw [decide_eq_false (p := (l.getD i dP).1 < (l.getD (i - 1) dP).1) (by omega)]
                  exact JL_nil (JE_stepV rfl ss0))), OblS_V (fun vals ex ψ => (by
                  refine JL_guard_yes rfl rfl ?_
                  refine JL_move rfl ?_
                  exact JL_nil (JE_stepV rfl ss0))), OblS_V (fun vals ex ψ => (by
                  refine JL_guard_yes rfl rfl ?_
                  refine JL_move rfl ?_
                  exact JL_nil (JE_stepV rfl ss0))), OblS_V (fun vals ex ψ => (by
                  refine JL_guard_yes rfl rfl ?_
                  refine JL_move rfl ?_
                  exact JL_nil (JE_stepV rfl ss0))), OblS_V (fun vals ex ψ => (by
                  refine JL_normQ _ (_ :: ψ) rfl rfl ?_
                  refine JL_guard_yes rfl rfl ?_
                  refine JL_indexAddr i sl22 rfl rfl rfl (by omega) (by first | exact Reads.view (by repeat (first | with_reducible exact mm0 | refine mmS ?_))) (by rw [pcells_length]; omega) ?_
                  exact JL_nil (JE_stepV rfl ss0))), OblS_V (fun vals ex ψ => (by
                  refine JL_normQ _ (_ :: ψ) rfl rfl ?_
                  refine JL_guard_yes rfl rfl ?_
                  refine JL_fieldAddrE fo53_0 rfl (by first | exact Reads.view (by repeat (first | with_reducible exact mm0 | refine mmS ?_))) (by rw [pcells_length]; omega) ?_
                  exact JL_nil (JE_stepV rfl ss0))), OblS_V (fun vals ex ψ => (by
                  refine JL_normQ _ (_ :: ψ) rfl rfl ?_
                  refine JL_guard_yes rfl rfl ?_
                  refine JL_loadE ty3 rfl (by first | exact Reads.view (by repeat (first | with_reducible exact mm0 | refine mmS ?_))) (pcells_one (by omega)).1 ?_
                  exact JL_nil (JE_stepV rfl ss0))), OblS_V (fun vals ex ψ => (by
                  refine JL_guard_yes rfl rfl ?_
                  refine JL_move rfl ?_
                  exact JL_nil (JE_stepV rfl ss0))), OblS_V (fun vals ex ψ => (by
                  refine JL_guard_yes rfl rfl ?_
                  refine JL_move rfl ?_
                  exact JL_nil (JE_stepV rfl ss0))), OblS_V (fun vals ex ψ => (by
                  refine JL_guard_yes rfl rfl ?_
                  refine JL_sub_to rfl rfl (IntWalk.i64_in _ (by omega)) ?_
                  exact JL_nil (JE_stepV rfl ss0))), OblS_V (fun vals ex ψ => (by
                  refine JL_normQ _ (_ :: ψ) rfl rfl ?_
                  refine JL_guard_yes rfl rfl ?_
                  refine JL_indexAddr (i - 1) sl22 rfl rfl (by omega) (by omega) (by first | exact Reads.view (by repeat (first | with_reducible exact mm0 | refine mmS ?_))) (by rw [pcells_length]; omega) ?_
                  exact JL_nil (JE_stepV rfl ss0))), OblS_V (fun vals ex ψ => (by
                  refine JL_normQ _ (_ :: ψ) rfl rfl ?_
                  refine JL_guard_yes rfl rfl ?_
                  refine JL_fieldAddrE fo53_0 rfl (by first | exact Reads.view (by repeat (first | with_reducible exact mm0 | refine mmS ?_))) (by rw [pcells_length]; omega) ?_
                  exact JL_nil (JE_stepV rfl ss0))), OblS_V (fun vals ex ψ => (by
                  refine JL_normQ _ (_ :: ψ) rfl rfl ?_
                  refine JL_guard_yes rfl rfl ?_
                  refine JL_loadE ty3 rfl (by first | exact Reads.view (by repeat (first | with_reducible exact mm0 | refine mmS ?_))) (pcells_one (by omega)).1 ?_
                  exact JL_nil (JE_stepV rfl ss0))), OblS_V (fun vals ex ψ => (by
                  refine JL_guard_yes rfl rfl ?_
                  refine JL_eql rfl rfl ?_
                  rw [decide_eq_true (p := (l.getD i dP).1 = (l.getD (i - 1) dP).1) (by omega)]
                  exact JL_nil (JE_stepV rfl ss0))), OblS_V (fun vals ex ψ => (by
                  refine JL_guard_yes rfl rfl ?_
                  refine JL_move rfl ?_
                  exact JL_nil (JE_stepV rfl ss0))), OblS_V (fun vals ex ψ => (by
                  refine JL_guard_yes rfl rfl ?_
                  refine JL_move rfl ?_
                  exact JL_nil (JE_stepV rfl ss0))), OblS_V (fun vals ex ψ => (by
                  refine JL_guard_yes rfl rfl ?_
                  refine JL_move rfl ?_
                  exact JL_nil (JE_stepV rfl ss0))), OblS_V (fun vals ex ψ => (by
                  refine JL_normQ _ (_ :: ψ) rfl rfl ?_
                  refine JL_guard_yes rfl rfl ?_
                  refine JL_indexAddr i sl22 rfl rfl rfl (by omega) (by first | exact Reads.view (by repeat (first | with_reducible exact mm0 | refine mmS ?_))) (by rw [pcells_length]; omega) ?_
                  exact JL_nil (JE_stepV rfl ss0))), OblS_V (fun vals ex ψ => (by
                  refine JL_normQ _ (_ :: ψ) rfl rfl ?_
                  refine JL_guard_yes rfl rfl ?_
                  refine JL_fieldAddrE fo53_1 rfl (by first | exact Reads.view (by repeat (first | with_reducible exact mm0 | refine mmS ?_))) (by rw [pcells_length]; omega) ?_
                  exact JL_nil (JE_stepV rfl ss0))), OblS_V (fun vals ex ψ => (by
                  refine JL_normQ _ (_ :: ψ) rfl rfl ?_
                  refine JL_guard_yes rfl rfl ?_
                  refine JL_loadE ty3 rfl (by first | exact Reads.view (by repeat (first | with_reducible exact mm0 | refine mmS ?_))) (pcells_one (by omega)).2 ?_
                  exact JL_nil (JE_stepV rfl ss0))), OblS_V (fun vals ex ψ => (by
                  refine JL_guard_yes rfl rfl ?_
                  refine JL_move rfl ?_
                  exact JL_nil (JE_stepV rfl ss0))), OblS_V (fun vals ex ψ => (by
                  refine JL_guard_yes rfl rfl ?_
                  refine JL_move rfl ?_
                  exact JL_nil (JE_stepV rfl ss0))), OblS_V (fun vals ex ψ => (by
                  refine JL_guard_yes rfl rfl ?_
                  refine JL_sub_to rfl rfl (IntWalk.i64_in _ (by omega)) ?_
                  exact JL_nil (JE_stepV rfl ss0))), OblS_V (fun vals ex ψ => (by
                  refine JL_normQ _ (_ :: ψ) rfl rfl ?_
                  refine JL_guard_yes rfl rfl ?_
                  refine JL_indexAddr (i - 1) sl22 rfl rfl (by omega) (by omega) (by first | exact Reads.view (by repeat (first | with_reducible exact mm0 | refine mmS ?_))) (by rw [pcells_length]; omega) ?_
                  exact JL_nil (JE_stepV rfl ss0))), OblS_V (fun vals ex ψ => (by
                  refine JL_normQ _ (_ :: ψ) rfl rfl ?_
                  refine JL_guard_yes rfl rfl ?_
                  refine JL_fieldAddrE fo53_1 rfl (by first | exact Reads.view (by repeat (first | with_reducible exact mm0 | refine mmS ?_))) (by rw [pcells_length]; omega) ?_
                  exact JL_nil (JE_stepV rfl ss0))), OblS_V (fun vals ex ψ => (by
                  refine JL_normQ _ (_ :: ψ) rfl rfl ?_
                  refine JL_guard_yes rfl rfl ?_
                  refine JL_loadE ty3 rfl (by first | exact Reads.view (by repeat (first | with_reducible exact mm0 | refine mmS ?_))) (pcells_one (by omega)).2 ?_
                  exact JL_nil (JE_stepV rfl ss0))), OblS_V (fun vals ex ψ => (by
                  refine JL_guard_yes rfl rfl ?_
                  refine JL_leq rfl rfl ?_
                  rw [decide_eq_false (p := (l.getD i dP).2 ≤ (l.getD (i - 1) dP).2) (by omega)]
                  exact JL_nil (JE_stepV rfl ss0))), OblS_V (fun vals ex ψ => (by
                  refine JL_guard_yes rfl rfl ?_
                  refine JL_pick_t rfl rfl ?_
                  exact JL_nil (JE_stepV rfl ss0))), OblS_V (fun vals ex ψ => (by
                  refine JL_guard_yes rfl rfl ?_
                  refine JL_pick_f rfl rfl ?_
                  exact JL_nil (JE_stepV rfl ss0))), OblS_V (fun vals ex ψ => (by
                  refine JL_pick_t rfl rfl ?_
                  exact JL_nil (JE_stepV rfl ss0))), trivial⟩ (by kernel_rfl) (fun vals bs => ?_)
              refine JL_normL [] ⟨115, [(71, _), (72, _), (73, _), (74, _), (75, _), (76, _), (77, _), (78, _), (79, _), (80, _), (81, _), (82, _), (83, _), (84, _), (85, _), (86, _), (87, _), (88, _), (89, _), (90, _), (91, _), (92, _), (93, _), (94, _), (95, _), (96, _), (97, _), (98, _), (99, _), (100, _), (101, _), (102, _), (103, _), (104, _), (105, _), (106, _), (107, _), (108, _), (109, _), (110, _), (111, _), (112, _), (113, _), (114, _)], _⟩ [] [_] rfl rfl rfl rfl ?_
              refine JL_done_up 115 [] [_] rfl rfl (by simp only [nrmF]; rfl) rfl rfl ?_
              refine JC_false rfl ?_
              refine JC_skip ?_
              refine JE_block_normal ?_
              refine JE_then ?_
              refine JC_region ?_
              refine JL_move rfl ?_
              refine JL_add_to rfl rfl (IntWalk.i64_in _ (by omega)) ?_
              refine JL_assign rfl ?_
              refine JL_nil_up 115 [] [_] rfl rfl (by simp only [nrmF]; rfl) rfl rfl ?_
              refine JE_nextS (i + 1) (by kernel_rfl) ?_ ?_ (by kernel_rfl) ?_
              · exact ⟨by omega, arcNext hj ⟨⟨⟨by omega, by omega⟩, ⟨by omega, by omega⟩, by omega⟩, fun h0 => .inr ⟨by omega, by omega⟩⟩⟩
              · first | omega | (dsimp only; omega)
              · exact subset_app subset_nil ss0
        · refine JL_done_up 115 [] [_] rfl rfl (by simp only [nrmF]; rfl) rfl rfl ?_
          refine JC_false rfl ?_
          refine JC_exit ?_
          refine JE_then_exit ?_
          refine JE_nextS_exit ?_
          refine JE_block_exit ?_
          refine JE_then ?_
          refine JC_seq ?_
          refine JC_region ?_
          refine JL_assign rfl ?_
          refine JL_done_up 115 [] [_] rfl rfl (by simp only [nrmF]; rfl) rfl rfl ?_
          refine JC_ret ?_
          refine JE_ret (vs := [_]) [] Tryz.results80 ⟨rfl, rfl⟩ ?_ ?_
          · rw [dgC_yes (by omega) (by omega) (fun j h => hj j (by omega))]; exact ⟨rfl, rfl⟩
          · exact all_nil

theorem rval_con {ad : Option Addr} {c : Nat} {l : List Pr} {n : Int} (hln : l.length ≤ 1000000) :
    ConF Tryz.prog 53 [.int .i64 n, .slice ad l.length c] [vCells ad (pcells l)]
      (fun v φo => v = .bool (decide (dgC n l)) ∧ φo = []) := by
  refine ConF_of Tryz.func53 rfl 8 _ rfl rfl ?_
  intro w0
  refine JC_norm ⟨8, [], [_, _, _, _, _, _, _, _]⟩ [] [_] rfl rfl rfl ?_
  refine JC_seq ?_
  refine JC_region ?_
  refine JL_assign rfl ?_
  refine JL_done_up 8 [] [_] rfl rfl (by simp only [nrmF]; rfl) rfl rfl ?_
  refine JC_seq ?_
  refine JC_region ?_
  refine JL_move rfl ?_
  refine JL_move rfl ?_
  refine JL_callF' (Asks.cons (holds_of_mem (by repeat (first | with_reducible exact mm0 | refine mmS ?_))) Asks.nil) (bdg_con hln) rfl ca80 ⟨rfl, rfl, rfl⟩ ?_
  rintro _ _ ⟨rfl, rfl⟩
  refine JL_assign rfl ?_
  refine JL_done_up 8 [] [_] rfl rfl (by simp only [nrmF]; rfl) rfl rfl ?_
  refine JC_ret ?_
  refine JE_ret (vs := [_]) [] Tryz.results53 ⟨rfl, rfl⟩ ?_ ?_
  · exact ⟨rfl, rfl⟩
  · exact all_nil

theorem bit_con {s b : Nat} (hs : s < 4294967296) (hb : b ≤ 31) :
    ConF Tryz.prog 69 [.int .u32 (s : Nat), .int .i64 (b : Nat)] []
      (fun v φo => v = .bool (s.testBit b) ∧ φo = []) := by
  refine ConF_of Tryz.func69 rfl 10 _ rfl rfl ?_
  intro w0
  refine JC_norm ⟨10, [], [_, _, _, _, _, _, _, _, _, _]⟩ [] [] rfl rfl rfl ?_
  refine JC_seq ?_
  refine JC_region ?_
  refine JL_assign rfl ?_
  refine JL_done_up 10 [] [] rfl rfl (by simp only [nrmF]; rfl) rfl rfl ?_
  refine JC_seq ?_
  refine JC_region ?_
  refine JL_move rfl ?_
  refine JL_move rfl ?_
  refine JL_shr_to (c := ((s >>> b : Nat) : Int)) rfl rfl (by omega) (shr_nat .u32 s b (by simp only [IntKind.bits]; omega)) ?_
  refine JL_and_to (c := ((s >>> b &&& 1 : Nat) : Int)) rfl rfl (u32_and_nat (s >>> b) 1 (Nat.lt_of_le_of_lt (Nat.shiftRight_le s b) hs) (by decide)) ?_
  refine JL_neq rfl rfl ?_
  rw [bit_dec]
  refine JL_assign rfl ?_
  refine JL_done_up 10 [] [] rfl rfl (by simp only [nrmF]; rfl) rfl rfl ?_
  refine JC_ret ?_
  refine JE_ret (vs := [_]) [] Tryz.results69 ⟨rfl, rfl⟩ ?_ ?_
  · exact ⟨rfl, rfl⟩
  · exact all_nil

set_option maxHeartbeats 1000000 in
theorem next_con {ad : Option Addr} {c : Nat} {l : List Pr} {n : Nat} (h : dgC n l) (hln : l.length ≤ 1000000) :
    ConQ Tryz.prog 82 [.int .i64 (n : Nat), .slice ad l.length c] [] [vCells ad (pcells l)]
      (OWS 95 (nextL n l)) := by
  have hn24 : n ≤ 24 := by have := h.1; omega
  refine ConQ_of Tryz.func82 rfl 28 _ rfl rfl ?_
  intro w0 p0 p1
  refine JC_norm ⟨28, [], [_, _, _, _, _, _, _, _, _, _, _, _, _, _, _, _, _, _, _, _, _, _, _, _, _, _, _, _]⟩ [] [_, _, _] rfl rfl rfl ?_
  refine JC_seq ?_
  refine JC_region ?_
  refine JL_assign rfl ?_
  refine JL_done_up 28 [] [_, _, _] rfl rfl (by simp only [nrmF]; rfl) rfl rfl ?_
  refine JC_seq ?_
  refine JC_region ?_
  refine JL_move rfl ?_
  refine JL_make1 n n sl82 rfl rfl rfl rfl (by omega) (by omega) (by omega) (fun g9 => ?_)
  rw [u32s_replicate]
  refine JL_assign rfl ?_
  refine JL_done_up 28 [osl _ _ _ _ _ _] [_, _, _] rfl rfl (by simp only [nrmF]; rfl) rfl rfl ?_
  refine JC_seq ?_
  refine JC_seq ?_
  refine JC_region ?_
  refine JL_move rfl ?_
  refine JL_len sl22 rfl ?_
  refine JL_move rfl ?_
  refine JL_done_up 28 [osl _ _ _ _ _ _] [_, _, _] rfl rfl (by simp only [nrmF]; rfl) rfl rfl ?_
  refine JC_block ?_
  refine JC_loopS ((Nat) × (List Nat)) (fun (i, r) => i ≤ l.length ∧ nxt l (List.replicate n 0) i = r) (fun (i, r) => l.length - i) (fun u (i, r) => [none, none, none, none, none, none, none, some (u 7), none, none, none, none, some (.int .i64 (i : Nat)), some (u 13), some (u 14), some (u 15), some (u 16), some (u 17), some (u 18), some (u 19), some (u 20), some (u 21), some (u 22), some (u 23), some (u 24), some (u 25), some (u 26), none]) (fun (i, r) => [some (osl (some ⟨g9, 0, none⟩) n n 95 1 (u32s r))]) (fun (i, r) => []) (0, (List.replicate n 0)) (by kernel_rfl) ?_ (by kernel_rfl) ?_ ?_
  · exact ⟨Nat.zero_le _, rfl⟩
  · exact subset_nil
  intro u i hC
  obtain ⟨i, r⟩ := i
  obtain ⟨hi, hr⟩ := hC
  refine JC_norm ⟨28, [], [_, _, _, _, _, _, _, _, _, _, _, _, _, _, _, _, _, _, _, _, _, _, _, _, _, _, _, _]⟩ [osl _ _ _ _ _ _] [_, _, _] rfl rfl rfl ?_
  refine JC_seq ?_
  refine JC_region ?_
  refine JL_lss rfl rfl ?_
  refine JL_split (fun h13 => ?_) (fun h13 => ?_)
  · refine JL_done_up 28 [osl _ _ _ _ _ _] [_, _, _] rfl rfl (by simp only [nrmF]; rfl) rfl rfl ?_
    refine JC_seq ?_
    refine JC_true rfl ?_
    refine JC_skip ?_
    refine JE_then ?_
    refine JC_seq ?_
    refine JC_block ?_
    refine JC_seq ?_
    obtain ⟨f, t, he, hf, ht, _⟩ := h.at (i := i) (by omega)
    have hrl : r.length = n := by rw [← hr, nxt_len, List.length_replicate]
    have hrb : bnd n r := by rw [← hr]; exact nxt_bnd h (bnd_zero n) (by omega)
    have htb := pow_lt n (v := t) (by omega)
    refine JC_region ?_
    refine JL_indexAddr i sl22 rfl rfl rfl (by omega) (by first | exact Reads.view (by repeat (first | with_reducible exact mm0 | refine mmS ?_)) | (exact Reads.own 0 rfl)) (by rw [pcells_length]; omega) ?_
    refine JL_loadEA (vs := [_, _]) ty53 (Nat.zero_lt_succ _) rfl (by first | exact Reads.view (by repeat (first | with_reducible exact mm0 | refine mmS ?_)) | (exact Reads.own 0 rfl)) (pcells_getE he (by omega)) ?_
    refine JL_alloc z53 (fun b7 => ?_)
    refine JL_store (vs := [_, _]) 1 ty53 rfl rfl rfl (AllOne.cons rfl (AllOne.cons rfl AllOne.nil)) rfl (Nat.le_of_ble_eq_true rfl) ?_
    refine JL_done_up 28 [osl _ _ _ _ _ _, box _ _ [_, _]] [_, _, _] rfl rfl (by simp only [nrmF]; rfl) rfl rfl ?_
    refine JC_drawT mixed 8 [spV 16 [] _, spV 17 [] _, spV 18 [1] _, spV 19 [0, 2] _, spV 20 [3] _, spV 21 [] _, spV 22 [5] _, spV 23 [6] _] ⟨OblS_V (fun vals ex ψ => (by
        refine JL_move rfl ?_
        exact JL_nil (JE_stepV rfl ss0))), OblS_V (fun vals ex ψ => (by
        refine JL_normQ _ (_ :: _ :: _ :: ψ) rfl rfl ?_
        refine JL_fieldAddr fo53_0 rfl ?_
        exact JL_nil (JE_stepV rfl ss0))), OblS_V (fun vals ex ψ => (by
        refine JL_normQ _ (_ :: _ :: _ :: ψ) rfl rfl ?_
        refine JL_load 1 ty3 rfl rfl rfl ?_
        exact JL_nil (JE_stepV rfl ss0))), OblS_V (fun vals ex ψ => (by
        refine JL_normQ _ (_ :: _ :: _ :: ψ) rfl rfl ?_
        refine JL_idx f sl82 rfl rfl rfl (by omega) (Reads.own 0 rfl) (by rw [u32s_length]; omega) ?_
        exact JL_nil (JE_stepV rfl ss0))), OblS_V (fun vals ex ψ => (by
        refine JL_normQ _ (_ :: _ :: _ :: ψ) rfl rfl ?_
        refine JL_loadE ty95 rfl (Reads.own 0 rfl) (u32s_get (by omega)) ?_
        exact JL_nil (JE_stepV rfl ss0))), OblS_V (fun vals ex ψ => (by
        refine JL_normQ _ (_ :: _ :: _ :: ψ) rfl rfl ?_
        refine JL_fieldAddr fo53_1 rfl ?_
        exact JL_nil (JE_stepV rfl ss0))), OblS_V (fun vals ex ψ => (by
        refine JL_normQ _ (_ :: _ :: _ :: ψ) rfl rfl ?_
        refine JL_load 1 ty3 rfl rfl rfl ?_
        exact JL_nil (JE_stepV rfl ss0))), OblS_V (fun vals ex ψ => (by
        refine JL_shl_to (c := ((2 ^ t : Nat) : Int)) rfl rfl (by omega) (shl_u32 t (by omega)) ?_
        exact JL_nil (JE_stepV rfl ss0))), trivial⟩ (by kernel_rfl) (fun vals bs => ?_)
    refine JL_normL [_, _, _] ⟨28, [(16, _), (17, _), (18, _), (19, _), (20, _), (21, _), (22, _), (23, _)], _⟩ [osl _ _ _ _ _ _, box _ _ [_, _]] [_, _, _] rfl rfl rfl rfl ?_
    refine JL_or_to (c := ((r.getD f 0 ||| 2 ^ t : Nat) : Int)) rfl rfl (u32_or_nat _ _ (lt24 hn24 (hrb f)) (lt24 hn24 htb)) ?_
    refine JL_idx f sl82 rfl rfl rfl (by omega) (Reads.own 0 rfl) (by rw [u32s_length]; omega) ?_
    refine JL_storeU 0 (r.getD f 0 ||| 2 ^ t) ty95 rfl rfl rfl rfl (by omega) ?_
    refine JL_nil_up 28 [osl _ _ _ _ _ _, box _ _ [_, _]] [_, _, _] rfl rfl (by simp only [nrmF]; rfl) rfl rfl ?_
    refine JE_block_normal ?_
    refine JE_then ?_
    refine JC_region ?_
    refine JL_add_to rfl rfl (IntWalk.i64_in _ (by omega)) ?_
    refine JL_move rfl ?_
    refine JL_nil_up 28 [osl _ _ _ _ _ _, box _ _ [_, _]] [_, _, _] rfl rfl (by simp only [nrmF]; rfl) rfl rfl ?_
    refine JE_dropAt 1 ?_
    refine JE_norm _ [osl _ _ _ _ _ _] [_, _, _] rfl rfl rfl ?_
    refine JE_nextS (i + 1, r.set f (r.getD f 0 ||| 2 ^ t)) (by kernel_rfl) ?_ ?_ (by kernel_rfl) ?_
    · exact ⟨by omega, by rw [nxt_at he, hr]⟩
    · first | omega | (dsimp only; omega)
    · exact subset_app subset_nil ss0
  · refine JL_done_up 28 [osl _ _ _ _ _ _] [_, _, _] rfl rfl (by simp only [nrmF]; rfl) rfl rfl ?_
    refine JC_seq ?_
    refine JC_false rfl ?_
    refine JC_exit ?_
    refine JE_then_exit ?_
    refine JE_nextS_exit ?_
    refine JE_block_exit ?_
    refine JE_then ?_
    refine JC_seq ?_
    refine JC_region ?_
    refine JL_move rfl ?_
    refine JL_assign rfl ?_
    refine JL_done_up 28 [osl _ _ _ _ _ _] [_, _, _] rfl rfl (by simp only [nrmF]; rfl) rfl rfl ?_
    refine JC_ret ?_
    have hie : i = l.length := by omega
    rw [hie] at hr
    have hrl : r.length = n := by rw [← hr, nxt_len, List.length_replicate]
    refine JE_retO (vs := [_]) [] Tryz.results82 ⟨rfl, rfl⟩ ?_ ?_ (by repeat (first | with_reducible exact mm0 | refine mmS ?_)) (by repeat (first | with_reducible exact mm0 | refine mmS ?_))
    · exact ⟨some ⟨g9, 0, none⟩, n, by rw [nextL_len]; rfl, rfl, by rw [nextL_len, show nextL n l = r from hr]⟩
    · exact all_nil

set_option maxHeartbeats 2000000 in
theorem reach_con {ad : Option Addr} {c : Nat} {l : List Pr} {n : Nat} (h : dgC n l) (hln : l.length ≤ 1000000) :
    ConF Tryz.prog 57 [.int .i64 (n : Nat), .slice ad l.length c] [vCells ad (pcells l)]
      (SET (reachL n l)) := by
  have hn24 : n ≤ 24 := by have := h.1; omega
  have hnl := nextL_len n l
  have hnb := nextL_bnd h
  refine ConF_of Tryz.func57 rfl 38 _ rfl rfl ?_
  intro w0
  refine JC_norm ⟨38, [], [_, _, _, _, _, _, _, _, _, _, _, _, _, _, _, _, _, _, _, _, _, _, _, _, _, _, _, _, _, _, _, _, _, _, _, _, _, _]⟩ [] [_] rfl rfl rfl ?_
  refine JC_seq ?_
  refine JC_region ?_
  refine JL_assign rfl ?_
  refine JL_done_up 38 [] [_] rfl rfl (by simp only [nrmF]; rfl) rfl rfl ?_
  refine JC_seq ?_
  refine JC_region ?_
  refine JL_move rfl ?_
  refine JL_move rfl ?_
  refine JL_callQ (AsksQ.cons (by first | exact holdsA_of_mem (by repeat (first | with_reducible exact mm0 | refine mmS ?_)) | exact holdsA_of_fresh (by repeat (first | with_reducible exact mm0 | refine mmS ?_))) AsksQ.nil) (next_con h hln) rfl ca82 ⟨rfl, rfl, rfl⟩ ?_
  rintro _ _ _ ⟨ad10, c10, rfl, rfl, rfl⟩
  rw [hnl]
  refine JL_assign rfl ?_
  refine JL_done_up 38 [osl _ _ _ _ _ _] [_] rfl rfl (by simp only [nrmF]; rfl) rfl rfl ?_
  refine JC_seq ?_
  refine JC_seq ?_
  refine JC_region ?_
  refine JL_move rfl ?_
  refine JL_move rfl ?_
  refine JL_done_up 38 [osl _ _ _ _ _ _] [_] rfl rfl (by simp only [nrmF]; rfl) rfl rfl ?_
  refine JC_block ?_
  refine JC_loopS ((Nat) × (List Nat)) (fun (m, r) => m ≤ n ∧ rchM n (nextL n l) m = r) (fun (m, r) => n - m) (fun u (m, r) => [none, none, none, none, none, none, some (u 6), some (u 7), none, none, none, none, some (.int .i64 (m : Nat)), some (u 13), some (u 14), some (u 15), some (u 16), some (u 17), some (u 18), some (u 19), some (u 20), some (u 21), some (u 22), some (u 23), some (u 24), some (u 25), some (u 26), some (u 27), some (u 28), some (u 29), some (u 30), some (u 31), some (u 32), some (u 33), some (u 34), some (u 35), some (u 36), none]) (fun (m, r) => [some (osl ad10 n c10 95 1 (u32s r))]) (fun (m, r) => []) (0, nextL n l) (by kernel_rfl) ?_ (by kernel_rfl) ?_ ?_
  · exact ⟨Nat.zero_le _, rfl⟩
  · exact subset_nil
  intro u i hC
  obtain ⟨m, r⟩ := i
  obtain ⟨hm, hr⟩ := hC
  refine JC_norm ⟨38, [], [_, _, _, _, _, _, _, _, _, _, _, _, _, _, _, _, _, _, _, _, _, _, _, _, _, _, _, _, _, _, _, _, _, _, _, _, _, _]⟩ [osl _ _ _ _ _ _] [_] rfl rfl rfl ?_
  have hrl : r.length = n := by rw [← hr, rchM_len, hnl]
  have hrb : bnd n r := by rw [← hr]; exact rchM_bnd hnb m
  refine JC_seq ?_
  refine JC_region ?_
  refine JL_lss rfl rfl ?_
  refine JL_split (fun h13 => ?_) (fun h13 => ?_)
  · refine JL_done_up 38 [osl _ _ _ _ _ _] [_] rfl rfl (by simp only [nrmF]; rfl) rfl rfl ?_
    refine JC_seq ?_
    refine JC_true rfl ?_
    refine JC_skip ?_
    refine JE_then ?_
    refine JC_seq ?_
    refine JC_block ?_
    refine JC_seq ?_
    refine JC_region ?_
    refine JL_move rfl ?_
    refine JL_assign rfl ?_
    refine JL_done_up 38 [osl _ _ _ _ _ _] [_] rfl rfl (by simp only [nrmF]; rfl) rfl rfl ?_
    refine JC_seq ?_
    refine JC_region ?_
    refine JL_move rfl ?_
    refine JL_move rfl ?_
    refine JL_done_up 38 [osl _ _ _ _ _ _] [_] rfl rfl (by simp only [nrmF]; rfl) rfl rfl ?_
    refine JC_block ?_
    refine JC_loopS ((Nat) × (List Nat)) (fun (i, r2) => i ≤ n ∧ rchI m r i = r2) (fun (i, r2) => n - i) (fun u (i, r2) => [none, none, none, none, none, none, none, some (u 7), none, none, none, none, none, none, none, none, some (.int .i64 (i : Nat)), some (u 17), some (u 18), some (u 19), some (u 20), some (u 21), some (u 22), some (u 23), some (u 24), some (u 25), some (u 26), some (u 27), some (u 28), some (u 29), some (u 30), some (u 31), some (u 32), some (u 33), some (u 34), some (u 35), none, none]) (fun (i, r2) => [some (osl ad10 n c10 95 1 (u32s r2))]) (fun (i, r2) => []) (0, r) (by kernel_rfl) ?_ (by kernel_rfl) ?_ ?_
    · exact ⟨Nat.zero_le _, rfl⟩
    · exact subset_nil
    intro u i hC
    obtain ⟨i, r2⟩ := i
    obtain ⟨hi, hr2⟩ := hC
    refine JC_norm ⟨38, [], [_, _, _, _, _, _, _, _, _, _, _, _, _, _, _, _, _, _, _, _, _, _, _, _, _, _, _, _, _, _, _, _, _, _, _, _, _, _]⟩ [osl _ _ _ _ _ _] [_] rfl rfl rfl ?_
    have hrl2 : r2.length = n := by rw [← hr2, rchI_len, hrl]
    have hrb2 : bnd n r2 := by rw [← hr2]; exact rchI_bnd hrb i
    refine JC_seq ?_
    refine JC_region ?_
    refine JL_lss rfl rfl ?_
    refine JL_split (fun h17 => ?_) (fun h17 => ?_)
    · refine JL_done_up 38 [osl _ _ _ _ _ _] [_] rfl rfl (by simp only [nrmF]; rfl) rfl rfl ?_
      refine JC_seq ?_
      refine JC_true rfl ?_
      refine JC_skip ?_
      refine JE_then ?_
      refine JC_seq ?_
      refine JC_block ?_
      refine JC_seq ?_
      refine JC_region ?_
      refine JL_move rfl ?_
      refine JL_assign rfl ?_
      refine JL_done_up 38 [osl _ _ _ _ _ _] [_] rfl rfl (by simp only [nrmF]; rfl) rfl rfl ?_
      refine JC_seq ?_
      refine JC_region ?_
      refine JL_move rfl ?_
      refine JL_move rfl ?_
      refine JL_idx i sl82 rfl rfl rfl (by omega) (Reads.own 0 rfl) (by rw [u32s_length]; omega) ?_
      refine JL_loadE ty95 rfl (Reads.own 0 rfl) (u32s_get (by omega)) ?_
      refine JL_move rfl ?_
      refine JL_callF' Asks.nil (bit_con (s := r2.getD i 0) (b := m) (lt24 hn24 (hrb2 i)) (by omega)) rfl ca69 ⟨rfl, rfl, rfl⟩ ?_
      rintro _ _ ⟨rfl, rfl⟩
      refine JL_splitV (fun h24 => ?_) (fun h24 => ?_)
      · refine JL_done_up 38 [osl _ _ _ _ _ _] [_] rfl rfl (by simp only [nrmF]; rfl) rfl rfl ?_
        refine JC_true rfl ?_
        refine JC_drawT mixed 8 [spV 25 [] _, spV 26 [] _, spV 27 [0, 1] _, spV 28 [2] _, spV 29 [] _, spV 30 [] _, spV 31 [4, 5] _, spV 32 [6] _] ⟨OblS_V (fun vals ex ψ => (by
            refine JL_move rfl ?_
            exact JL_nil (JE_stepV rfl ss0))), OblS_V (fun vals ex ψ => (by
            refine JL_move rfl ?_
            exact JL_nil (JE_stepV rfl ss0))), OblS_V (fun vals ex ψ => (by
            refine JL_normQ _ (_ :: ψ) rfl rfl ?_
            refine JL_idx i sl82 rfl rfl rfl (by omega) (Reads.own 0 rfl) (by rw [u32s_length]; omega) ?_
            exact JL_nil (JE_stepV rfl ss0))), OblS_V (fun vals ex ψ => (by
            refine JL_normQ _ (_ :: ψ) rfl rfl ?_
            refine JL_loadE ty95 rfl (Reads.own 0 rfl) (u32s_get (by omega)) ?_
            exact JL_nil (JE_stepV rfl ss0))), OblS_V (fun vals ex ψ => (by
            refine JL_move rfl ?_
            exact JL_nil (JE_stepV rfl ss0))), OblS_V (fun vals ex ψ => (by
            refine JL_move rfl ?_
            exact JL_nil (JE_stepV rfl ss0))), OblS_V (fun vals ex ψ => (by
            refine JL_normQ _ (_ :: ψ) rfl rfl ?_
            refine JL_idx m sl82 rfl rfl rfl (by omega) (Reads.own 0 rfl) (by rw [u32s_length]; omega) ?_
            exact JL_nil (JE_stepV rfl ss0))), OblS_V (fun vals ex ψ => (by
            refine JL_normQ _ (_ :: ψ) rfl rfl ?_
            refine JL_loadE ty95 rfl (Reads.own 0 rfl) (u32s_get (by omega)) ?_
            exact JL_nil (JE_stepV rfl ss0))), trivial⟩ (by kernel_rfl) (fun vals bs => ?_)
        refine JL_normL [_, _, _] ⟨38, [(25, _), (26, _), (27, _), (28, _), (29, _), (30, _), (31, _), (32, _)], _⟩ [osl _ _ _ _ _ _] [_] rfl rfl rfl rfl ?_
        refine JL_or_to (c := ((r2.getD i 0 ||| r2.getD m 0 : Nat) : Int)) rfl rfl (u32_or_nat _ _ (lt24 hn24 (hrb2 i)) (lt24 hn24 (hrb2 m))) ?_
        refine JL_idx i sl82 rfl rfl rfl (by omega) (Reads.own 0 rfl) (by rw [u32s_length]; omega) ?_
        refine JL_storeU 0 (r2.getD i 0 ||| r2.getD m 0) ty95 rfl rfl rfl rfl (by omega) ?_
        refine JL_nil_up 38 [osl _ _ _ _ _ _] [_] rfl rfl (by simp only [nrmF]; rfl) rfl rfl ?_
        refine JE_block_normal ?_
        refine JE_then ?_
        refine JC_region ?_
        refine JL_add_to rfl rfl (IntWalk.i64_in _ (by omega)) ?_
        refine JL_move rfl ?_
        refine JL_nil_up 38 [osl _ _ _ _ _ _] [_] rfl rfl (by simp only [nrmF]; rfl) rfl rfl ?_
        refine JE_nextS (i + 1, r2.set i (r2.getD i 0 ||| r2.getD m 0)) (by kernel_rfl) ?_ ?_ (by kernel_rfl) ?_
        · exact ⟨by omega, by rw [rchI, hr2, if_pos h24]⟩
        · first | omega | (dsimp only; omega)
        · exact subset_app subset_nil ss0
      · refine JL_done_up 38 [osl _ _ _ _ _ _] [_] rfl rfl (by simp only [nrmF]; rfl) rfl rfl ?_
        refine JC_false rfl ?_
        refine JC_skip ?_
        refine JE_block_normal ?_
        refine JE_then ?_
        refine JC_region ?_
        refine JL_add_to rfl rfl (IntWalk.i64_in _ (by omega)) ?_
        refine JL_move rfl ?_
        refine JL_nil_up 38 [osl _ _ _ _ _ _] [_] rfl rfl (by simp only [nrmF]; rfl) rfl rfl ?_
        refine JE_nextS (i + 1, r2) (by kernel_rfl) ?_ ?_ (by kernel_rfl) ?_
        · exact ⟨by omega, by rw [rchI, hr2, if_neg (by rw [h24]; decide)]⟩
        · first | omega | (dsimp only; omega)
        · exact subset_app subset_nil ss0
    · refine JL_done_up 38 [osl _ _ _ _ _ _] [_] rfl rfl (by simp only [nrmF]; rfl) rfl rfl ?_
      refine JC_seq ?_
      refine JC_false rfl ?_
      refine JC_exit ?_
      refine JE_then_exit ?_
      refine JE_nextS_exit ?_
      refine JE_block_exit ?_
      refine JE_block_normal ?_
      refine JE_then ?_
      refine JC_region ?_
      refine JL_add_to rfl rfl (IntWalk.i64_in _ (by omega)) ?_
      refine JL_move rfl ?_
      refine JL_nil_up 38 [osl _ _ _ _ _ _] [_] rfl rfl (by simp only [nrmF]; rfl) rfl rfl ?_
      refine JE_nextS (m + 1, r2) (by kernel_rfl) ?_ ?_ (by kernel_rfl) ?_
      · exact ⟨by omega, by rw [rchM, hr, ← hr2, show i = n from by omega]⟩
      · first | omega | (dsimp only; omega)
      · exact subset_app subset_nil ss0
  · refine JL_done_up 38 [osl _ _ _ _ _ _] [_] rfl rfl (by simp only [nrmF]; rfl) rfl rfl ?_
    refine JC_seq ?_
    refine JC_false rfl ?_
    refine JC_exit ?_
    refine JE_then_exit ?_
    refine JE_nextS_exit ?_
    refine JE_block_exit ?_
    refine JE_then ?_
    refine JC_seq ?_
    refine JC_region ?_
    refine JL_move rfl ?_
    refine JL_assign rfl ?_
    refine JL_done_up 38 [osl _ _ _ _ _ _] [_] rfl rfl (by simp only [nrmF]; rfl) rfl rfl ?_
    refine JC_ret ?_
    have hme : m = n := by omega
    rw [hme] at hr
    refine JE_give 0 rfl ?_
    refine JE_norm _ [] [_, _] rfl rfl rfl ?_
    refine JE_ret (vs := [_]) [vCells ad10 (u32s r)] Tryz.results57 ⟨rfl, rfl⟩ ?_ ?_
    · rw [show reachL n l = r from hr]; exact ⟨ad10, c10, by rw [← hr, rchM_len, hnl]; rfl, rfl⟩
    · exact (all_cons (by repeat (first | with_reducible exact mm0 | refine mmS ?_)) all_nil)

theorem acyc_con {ad : Option Addr} {c n : Nat} {r : List Nat} (hn : r.length = n) (hn24 : n ≤ 24) (hb : bnd n r) :
    ConF Tryz.prog 137 [.slice ad r.length c] [vCells ad (u32s r)]
      (fun v φo => v = .bool (decide (acyL r)) ∧ φo = []) := by
  refine ConF_of Tryz.func137 rfl 16 _ rfl rfl ?_
  intro w0
  refine JC_norm ⟨16, [], [_, _, _, _, _, _, _, _, _, _, _, _, _, _, _, _]⟩ [] [_] rfl rfl rfl ?_
  refine JC_seq ?_
  refine JC_region ?_
  refine JL_assign rfl ?_
  refine JL_done_up 16 [] [_] rfl rfl (by simp only [nrmF]; rfl) rfl rfl ?_
  refine JC_seq ?_
  refine JC_seq ?_
  refine JC_region ?_
  refine JL_move rfl ?_
  refine JL_len sl82 rfl ?_
  refine JL_move rfl ?_
  refine JL_done_up 16 [] [_] rfl rfl (by simp only [nrmF]; rfl) rfl rfl ?_
  refine JC_block ?_
  refine JC_loopS ((Nat)) (fun (i : Nat) => i ≤ n ∧ ∀ j, j < i → (r.getD j 0).testBit j = false) (fun (i : Nat) => n - i) (fun u (i : Nat) => [none, none, some (u 2), some (u 3), some (u 4), none, none, some (.int .i64 (i : Nat)), some (u 8), some (u 9), some (u 10), some (u 11), some (u 12), some (u 13), some (u 14), some (u 15)]) (fun (i : Nat) => []) (fun (i : Nat) => []) (0) (by kernel_rfl) ?_ (by kernel_rfl) ?_ ?_
  · exact ⟨Nat.zero_le _, fun j hj => absurd hj (Nat.not_lt_zero _)⟩
  · exact subset_nil
  intro u i hC
  obtain ⟨hi, hj⟩ := hC
  refine JC_norm ⟨16, [], [_, _, _, _, _, _, _, _, _, _, _, _, _, _, _, _]⟩ [] [_] rfl rfl rfl ?_
  refine JC_seq ?_
  refine JC_region ?_
  refine JL_lss rfl rfl ?_
  refine JL_split (fun h8 => ?_) (fun h8 => ?_)
  · refine JL_done_up 16 [] [_] rfl rfl (by simp only [nrmF]; rfl) rfl rfl ?_
    refine JC_seq ?_
    refine JC_true rfl ?_
    refine JC_skip ?_
    refine JE_then ?_
    refine JC_seq ?_
    refine JC_block ?_
    refine JC_seq ?_
    refine JC_region ?_
    refine JL_move rfl ?_
    refine JL_idx i sl82 rfl rfl rfl (by omega) (by first | exact Reads.view (by repeat (first | with_reducible exact mm0 | refine mmS ?_))) (by first | (rw [u32s_length]; omega) | (rw [i64s_length]; omega)) ?_
    refine JL_loadE ty95 rfl (by first | exact Reads.view (by repeat (first | with_reducible exact mm0 | refine mmS ?_))) (u32s_get (by omega)) ?_
    refine JL_assign rfl ?_
    refine JL_assign rfl ?_
    refine JL_done_up 16 [] [_] rfl rfl (by simp only [nrmF]; rfl) rfl rfl ?_
    refine JC_seq ?_
    refine JC_region ?_
    refine JL_move rfl ?_
    refine JL_move rfl ?_
    refine JL_callF' Asks.nil (bit_con (s := r.getD i 0) (b := i) (lt24 hn24 (hb i)) (by omega)) rfl ca69 ⟨rfl, rfl, rfl⟩ ?_
    rintro _ _ ⟨rfl, rfl⟩
    refine JL_splitV (fun h14 => ?_) (fun h14 => ?_)
    · refine JL_done_up 16 [] [_] rfl rfl (by simp only [nrmF]; rfl) rfl rfl ?_
      refine JC_true rfl ?_
      refine JC_seq ?_
      refine JC_region ?_
      refine JL_assign rfl ?_
      refine JL_done_up 16 [] [_] rfl rfl (by simp only [nrmF]; rfl) rfl rfl ?_
      refine JC_ret ?_
      refine JE_block_ret ?_
      refine JE_then_ret ?_
      refine JE_nextS_ret ?_
      refine JE_block_ret ?_
      refine JE_then_ret ?_
      refine JE_ret (vs := [_]) [] Tryz.results137 ⟨rfl, rfl⟩ ?_ ?_
      · rw [acy_no (i := i) (by omega) h14]; exact ⟨rfl, rfl⟩
      · exact all_nil
    · refine JL_done_up 16 [] [_] rfl rfl (by simp only [nrmF]; rfl) rfl rfl ?_
      refine JC_false rfl ?_
      refine JC_skip ?_
      refine JE_block_normal ?_
      refine JE_then ?_
      refine JC_region ?_
      refine JL_add_to rfl rfl (IntWalk.i64_in _ (by omega)) ?_
      refine JL_move rfl ?_
      refine JL_nil_up 16 [] [_] rfl rfl (by simp only [nrmF]; rfl) rfl rfl ?_
      refine JE_nextS (i + 1) (by kernel_rfl) ?_ ?_ (by kernel_rfl) ?_
      · exact ⟨by omega, fun j hj2 => by
        by_cases e : j = i
        · subst e; exact h14
        · exact hj j (by omega)⟩
      · first | omega | (dsimp only; omega)
      · exact subset_app subset_nil ss0
  · refine JL_done_up 16 [] [_] rfl rfl (by simp only [nrmF]; rfl) rfl rfl ?_
    refine JC_seq ?_
    refine JC_false rfl ?_
    refine JC_exit ?_
    refine JE_then_exit ?_
    refine JE_nextS_exit ?_
    refine JE_block_exit ?_
    refine JE_then ?_
    refine JC_seq ?_
    refine JC_region ?_
    refine JL_assign rfl ?_
    refine JL_done_up 16 [] [_] rfl rfl (by simp only [nrmF]; rfl) rfl rfl ?_
    refine JC_ret ?_
    refine JE_ret (vs := [_]) [] Tryz.results137 ⟨rfl, rfl⟩ ?_ ?_
    · rw [decide_eq_true (p := acyL r) (fun j h => hj j (by omega))]; exact ⟨rfl, rfl⟩
    · exact all_nil

set_option maxHeartbeats 1000000 in
theorem plist_con {ad : Option Addr} {c n : Nat} {r : List Nat} (hn : r.length = n) (hn24 : n ≤ 24) (hb : bnd n r) :
    ConF Tryz.prog 56 [.slice ad r.length c] [vCells ad (u32s r)]
      (IPP (lstL r n)) := by
  refine ConF_of Tryz.func56 rfl 36 _ rfl rfl ?_
  intro w0
  refine JC_norm ⟨36, [], [_, _, _, _, _, _, _, _, _, _, _, _, _, _, _, _, _, _, _, _, _, _, _, _, _, _, _, _, _, _, _, _, _, _, _, _]⟩ [] [_] rfl rfl rfl ?_
  refine JC_seq ?_
  refine JC_region ?_
  refine JL_assign rfl ?_
  refine JL_done_up 36 [] [_] rfl rfl (by simp only [nrmF]; rfl) rfl rfl ?_
  refine JC_seq ?_
  refine JC_region ?_
  refine JL_assign rfl ?_
  refine JL_done_up 36 [] [_] rfl rfl (by simp only [nrmF]; rfl) rfl rfl ?_
  refine JC_seq ?_
  refine JC_seq ?_
  refine JC_region ?_
  refine JL_move rfl ?_
  refine JL_len sl82 rfl ?_
  refine JL_move rfl ?_
  refine JL_done_up 36 [] [_] rfl rfl (by simp only [nrmF]; rfl) rfl rfl ?_
  refine JC_block ?_
  refine JC_addNil 53 2 ?_
  refine JC_norm ⟨36, [], [_, _, _, _, _, _, _, _, _, _, _, _, _, _, _, _, _, _, _, _, _, _, _, _, _, _, _, _, _, _, _, _, _, _, _, _]⟩ [osl _ _ _ _ _ _] [_] rfl rfl rfl ?_
  refine JC_loopS ((Nat) × (List Pr) × (Option Addr) × (Nat) × (Nat)) (fun (i, q, ad3, cap3, n3) => i ≤ n ∧ lstL r i = q ∧ q.length = n3) (fun (i, q, ad3, cap3, n3) => n - i) (fun u (i, q, ad3, cap3, n3) => [none, none, none, some (.slice ad3 n3 cap3), some (u 4), some (u 5), some (u 6), none, none, some (.int .i64 (i : Nat)), some (u 10), some (u 11), some (u 12), some (u 13), some (u 14), some (u 15), some (u 16), some (u 17), some (u 18), some (u 19), some (u 20), some (u 21), some (u 22), some (u 23), some (u 24), some (u 25), some (u 26), some (u 27), some (u 28), some (u 29), some (u 30), some (u 31), some (u 32), some (u 33), some (u 34), none]) (fun (i, q, ad3, cap3, n3) => [some (osl ad3 n3 cap3 53 2 (pcells q))]) (fun (i, q, ad3, cap3, n3) => []) (0, [], none, 0, 0) (by kernel_rfl) ?_ (by kernel_rfl) ?_ ?_
  · exact ⟨Nat.zero_le _, rfl, rfl⟩
  · exact subset_nil
  intro u i hC
  obtain ⟨i, q, ad3, cap3, n3⟩ := i
  obtain ⟨hi, hq, hn3⟩ := hC
  refine JC_norm ⟨36, [], [_, _, _, _, _, _, _, _, _, _, _, _, _, _, _, _, _, _, _, _, _, _, _, _, _, _, _, _, _, _, _, _, _, _, _, _]⟩ [osl _ _ _ _ _ _] [_] rfl rfl rfl ?_
  refine JC_seq ?_
  refine JC_region ?_
  refine JL_lss rfl rfl ?_
  refine JL_split (fun h10 => ?_) (fun h10 => ?_)
  · refine JL_done_up 36 [osl _ _ _ _ _ _] [_] rfl rfl (by simp only [nrmF]; rfl) rfl rfl ?_
    refine JC_seq ?_
    refine JC_true rfl ?_
    refine JC_skip ?_
    refine JE_then ?_
    refine JC_seq ?_
    refine JC_block ?_
    refine JC_seq ?_
    refine JC_region ?_
    refine JL_move rfl ?_
    refine JL_idx i sl82 rfl rfl rfl (by omega) (by first | exact Reads.view (by repeat (first | with_reducible exact mm0 | refine mmS ?_)) | (exact Reads.own 0 rfl)) (by first | (rw [u32s_length]; omega) | (rw [i64s_length]; omega)) ?_
    refine JL_loadE ty95 rfl (by first | exact Reads.view (by repeat (first | with_reducible exact mm0 | refine mmS ?_)) | (exact Reads.own 0 rfl)) (u32s_get (by omega)) ?_
    refine JL_assign rfl ?_
    refine JL_assign rfl ?_
    refine JL_done_up 36 [osl _ _ _ _ _ _] [_] rfl rfl (by simp only [nrmF]; rfl) rfl rfl ?_
    refine JC_seq ?_
    refine JC_region ?_
    refine JL_move rfl ?_
    refine JL_len sl82 rfl ?_
    refine JL_move rfl ?_
    refine JL_done_up 36 [osl _ _ _ _ _ _] [_] rfl rfl (by simp only [nrmF]; rfl) rfl rfl ?_
    refine JC_block ?_
    refine JC_loopS ((Nat) × (List Pr) × (Option Addr) × (Nat) × (Nat)) (fun (j, q2, ad4, cap4, n4) => j ≤ n ∧ lstL r i ++ lstJ r i j = q2 ∧ q2.length = n4) (fun (j, q2, ad4, cap4, n4) => n - j) (fun u (j, q2, ad4, cap4, n4) => [none, none, none, some (.slice ad4 n4 cap4), none, none, some (u 6), none, none, none, none, none, none, none, none, none, some (.int .i64 (j : Nat)), some (u 17), some (u 18), some (u 19), some (u 20), some (u 21), some (u 22), some (u 23), some (u 24), some (u 25), some (u 26), some (u 27), some (u 28), some (u 29), some (u 30), some (u 31), some (u 32), some (u 33), none, none]) (fun (j, q2, ad4, cap4, n4) => [some (osl ad4 n4 cap4 53 2 (pcells q2))]) (fun (j, q2, ad4, cap4, n4) => []) (0, q, ad3, cap3, n3) (by kernel_rfl) ?_ (by kernel_rfl) ?_ ?_
    · exact ⟨Nat.zero_le _, by rw [lstJ, List.append_nil, hq], hn3⟩
    · exact subset_nil
    intro u i hC
    obtain ⟨j, q2, ad4, cap4, n4⟩ := i
    obtain ⟨hj, hq2, hn4⟩ := hC
    refine JC_norm ⟨36, [], [_, _, _, _, _, _, _, _, _, _, _, _, _, _, _, _, _, _, _, _, _, _, _, _, _, _, _, _, _, _, _, _, _, _, _, _]⟩ [osl _ _ _ _ _ _] [_] rfl rfl rfl ?_
    have hL1 := lstL_len r i
    have hJ1 := lstJ_len r i j
    have hQ1 := congrArg List.length hq2
    rw [List.length_append, hn4] at hQ1
    have hM1 : i * r.length ≤ 24 * 24 := Nat.mul_le_mul (by omega) (by omega)
    refine JC_seq ?_
    refine JC_region ?_
    refine JL_lss rfl rfl ?_
    refine JL_split (fun h17 => ?_) (fun h17 => ?_)
    · refine JL_done_up 36 [osl _ _ _ _ _ _] [_] rfl rfl (by simp only [nrmF]; rfl) rfl rfl ?_
      refine JC_seq ?_
      refine JC_true rfl ?_
      refine JC_skip ?_
      refine JE_then ?_
      refine JC_seq ?_
      refine JC_block ?_
      refine JC_seq ?_
      refine JC_region ?_
      refine JL_move rfl ?_
      refine JL_assign rfl ?_
      refine JL_done_up 36 [osl _ _ _ _ _ _] [_] rfl rfl (by simp only [nrmF]; rfl) rfl rfl ?_
      refine JC_seq ?_
      refine JC_region ?_
      refine JL_move rfl ?_
      refine JL_move rfl ?_
      refine JL_neq rfl rfl ?_
      refine JL_split (fun h21 => ?_) (fun h21 => ?_)
      · refine JL_move rfl ?_
        refine JL_guard_yes rfl rfl ?_
        refine JL_move rfl ?_
        refine JL_guard_yes rfl rfl ?_
        refine JL_move rfl ?_
        refine JL_guard_yes rfl rfl ?_
        refine JL_callF' Asks.nil (bit_con (s := r.getD i 0) (b := j) (lt24 hn24 (hb i)) (by omega)) rfl ca69 ⟨rfl, rfl, rfl⟩ ?_
        rintro _ _ ⟨rfl, rfl⟩
        refine JL_splitV (fun h25 => ?_) (fun h25 => ?_)
        · refine JL_pick_t rfl rfl ?_
          refine JL_done_up 36 [osl _ _ _ _ _ _] [_] rfl rfl (by simp only [nrmF]; rfl) rfl rfl ?_
          refine JC_true rfl ?_
          refine JC_region ?_
          refine JL_move rfl ?_
          refine JL_move rfl ?_
          refine JL_move rfl ?_
          refine JL_build (cs := [_, _]) [(0, [_]), (1, [_])] st53 ⟨⟨rfl, _, rfl, rfl⟩, ⟨rfl, _, rfl, rfl⟩, rfl⟩ rfl ?_
          refine JL_buildN (cs0 := [.int .i64 0, .int .i64 0]) (cs := [_, _]) [(0, [_, _])] sl22 (by kernel_rfl) ⟨⟨rfl, _, rfl, rfl⟩, rfl⟩ rfl rfl rfl rfl (fun g31 => ?_)
          refine JL_append (news := [_, _]) 0 sl22 rfl (by decide) rfl rfl rfl rfl (Reads.own 1 rfl) (AllOne.cons rfl (AllOne.cons rfl AllOne.nil)) (by omega) (by omega) (fun ad32 cap32 hc32 => ?_)
          refine JL_dropAt 1 ?_
          refine JL_norm _ [osl _ _ _ _ _ _] [_] rfl rfl rfl ?_
          rw [show pcells q2 ++ pc ((i : Int), (j : Int)) = pcells (q2 ++ [((i : Int), (j : Int))]) from pcells_snoc q2 _]
          refine JL_assign rfl ?_
          refine JL_nil_up 36 [osl _ _ _ _ _ _] [_] rfl rfl (by simp only [nrmF]; rfl) rfl rfl ?_
          refine JE_block_normal ?_
          refine JE_then ?_
          refine JC_region ?_
          refine JL_add_to rfl rfl (IntWalk.i64_in _ (by omega)) ?_
          refine JL_move rfl ?_
          refine JL_nil_up 36 [osl _ _ _ _ _ _] [_] rfl rfl (by simp only [nrmF]; rfl) rfl rfl ?_
          refine JE_nextS (j + 1, q2 ++ [((i : Int), (j : Int))], ad32, cap32, n4 + 1) (by kernel_rfl) ?_ ?_ (by kernel_rfl) ?_
          · exact ⟨by omega, by rw [lstJ, if_pos ⟨by omega, h25⟩, ← List.append_assoc, hq2], by rw [List.length_append, hn4]; rfl⟩
          · first | omega | (dsimp only; omega)
          · exact subset_app subset_nil ss0
        · refine JL_pick_t rfl rfl ?_
          refine JL_done_up 36 [osl _ _ _ _ _ _] [_] rfl rfl (by simp only [nrmF]; rfl) rfl rfl ?_
          refine JC_false rfl ?_
          refine JC_skip ?_
          refine JE_block_normal ?_
          refine JE_then ?_
          refine JC_region ?_
          refine JL_add_to rfl rfl (IntWalk.i64_in _ (by omega)) ?_
          refine JL_move rfl ?_
          refine JL_nil_up 36 [osl _ _ _ _ _ _] [_] rfl rfl (by simp only [nrmF]; rfl) rfl rfl ?_
          refine JE_nextS (j + 1, q2, ad4, cap4, n4) (by kernel_rfl) ?_ ?_ (by kernel_rfl) ?_
          · exact ⟨by omega, by rw [lstJ, if_neg (fun e => by rw [h25] at e; exact absurd e.2 (by decide)), hq2], hn4⟩
          · first | omega | (dsimp only; omega)
          · exact subset_app subset_nil ss0
      · refine JL_move rfl ?_
        refine JL_guard_no rfl rfl ?_
        refine JL_guard_no rfl rfl ?_
        refine JL_guard_no rfl rfl ?_
        refine JL_pick_f rfl rfl ?_
        refine JL_done_up 36 [osl _ _ _ _ _ _] [_] rfl rfl (by simp only [nrmF]; rfl) rfl rfl ?_
        refine JC_false rfl ?_
        refine JC_skip ?_
        refine JE_block_normal ?_
        refine JE_then ?_
        refine JC_region ?_
        refine JL_add_to rfl rfl (IntWalk.i64_in _ (by omega)) ?_
        refine JL_move rfl ?_
        refine JL_nil_up 36 [osl _ _ _ _ _ _] [_] rfl rfl (by simp only [nrmF]; rfl) rfl rfl ?_
        refine JE_nextS (j + 1, q2, ad4, cap4, n4) (by kernel_rfl) ?_ ?_ (by kernel_rfl) ?_
        · exact ⟨by omega, by rw [lstJ, if_neg (fun e => e.1 (by omega)), hq2], hn4⟩
        · first | omega | (dsimp only; omega)
        · exact subset_app subset_nil ss0
    · refine JL_done_up 36 [osl _ _ _ _ _ _] [_] rfl rfl (by simp only [nrmF]; rfl) rfl rfl ?_
      refine JC_seq ?_
      refine JC_false rfl ?_
      refine JC_exit ?_
      refine JE_then_exit ?_
      refine JE_nextS_exit ?_
      refine JE_block_exit ?_
      refine JE_block_normal ?_
      refine JE_then ?_
      refine JC_region ?_
      refine JL_add_to rfl rfl (IntWalk.i64_in _ (by omega)) ?_
      refine JL_move rfl ?_
      refine JL_nil_up 36 [osl _ _ _ _ _ _] [_] rfl rfl (by simp only [nrmF]; rfl) rfl rfl ?_
      refine JE_nextS (i + 1, q2, ad4, cap4, n4) (by kernel_rfl) ?_ ?_ (by kernel_rfl) ?_
      · exact ⟨by omega, by rw [lstL, ← hq2, show j = r.length from by omega], hn4⟩
      · first | omega | (dsimp only; omega)
      · exact subset_app subset_nil ss0
  · refine JL_done_up 36 [osl _ _ _ _ _ _] [_] rfl rfl (by simp only [nrmF]; rfl) rfl rfl ?_
    refine JC_seq ?_
    refine JC_false rfl ?_
    refine JC_exit ?_
    refine JE_then_exit ?_
    refine JE_nextS_exit ?_
    refine JE_block_exit ?_
    refine JE_then ?_
    refine JC_seq ?_
    have hie : i = n := by omega
    subst hn3
    rw [hie] at hq
    refine JC_ownCap 0 rfl (fun hcap => ?_)
    refine JC_region ?_
    refine JL_move rfl ?_
    refine JL_assign rfl ?_
    refine JL_done_up 36 [osl _ _ _ _ _ _] [_] rfl rfl (by simp only [nrmF]; rfl) rfl rfl ?_
    refine JC_ret ?_
    refine JE_give 0 rfl ?_
    refine JE_norm _ [] [_, _] rfl rfl rfl ?_
    refine JE_ret (vs := [_]) [vCells ad3 (pcells q)] Tryz.results56 ⟨rfl, rfl⟩ ?_ ?_
    · rw [hq]; exact ⟨ad3, cap3, rfl, hcap, rfl⟩
    · exact (all_cons (by repeat (first | with_reducible exact mm0 | refine mmS ?_)) all_nil)

end Go.Fw.K
