/- Walks through functions of the given program: each meets its contract. (Printed by a program of this repo.) -/
import Derived.Test.YtgfldmhpindbpaaDoorC4
import Derived.Test.YtgfldmhpindbpaaDoorC5
import Derived.Test.YtgfldmhpindbpaaDoorM1
import Derived.Test.YtgfldmhpindbpaaDoorProg
namespace Go.Fw.P3
open Go Go.RowKit Go.Proofs Go.Nat9 Go.Fw
attribute [local irreducible] JC JL JE
theorem ca10 : callable Tryd.prog 10 = true := by kernel_rfl
theorem ca11 : callable Tryd.prog 11 = true := by kernel_rfl
theorem ca13 : callable Tryd.prog 13 = true := by kernel_rfl
theorem ca14 : callable Tryd.prog 14 = true := by kernel_rfl
theorem ca15 : callable Tryd.prog 15 = true := by kernel_rfl
theorem ca9 : callable Tryd.prog 9 = true := by kernel_rfl
theorem mixed : Tryd.prog.follows .mixedOrders = true := by kernel_rfl
theorem sl22 : slOf Tryd.prog 22 = some (3, 1, 8, [.int .i64 0]) := by kernel_rfl
theorem sl28 : slOf Tryd.prog 28 = some (36, 3, 56, [.bool false, .slice none 0 0, .slice none 0 0]) := by kernel_rfl
theorem ty3 : tyOf Tryd.prog 3 = some (false, 1) := by kernel_rfl
theorem ty36 : tyOf Tryd.prog 36 = some (true, 3) := by kernel_rfl
end Go.Fw.P3
namespace Go.Fw.K
open Go Go.RowKit Go.Proofs Go.Nat9 Go.Fw Go.Fw.P3
attribute [local irreducible] JC JL JE

set_option maxHeartbeats 1000000 in
set_option maxRecDepth 20000 in
theorem isotonicTurns_con {adv adw : Option Addr} {cv cw : Nat} {V W : List Int} :
    ConF Tryd.prog 4 [.slice adv V.length cv, .slice adw W.length cw] [vCells adv (i64s V), vCells adw (i64s W)]
      (fun v φo => v = .bool true ∧ φo = []) := by
  refine ConF_of Tryd.func4 rfl 110 _ rfl rfl ?_
  intro w0
  refine JC_norm ⟨110, [], [_, _, _, _, _, _, _, _, _, _, _, _, _, _, _, _, _, _, _, _, _, _, _, _, _, _, _, _, _, _, _, _, _, _, _, _, _, _, _, _, _, _, _, _, _, _, _, _, _, _, _, _, _, _, _, _, _, _, _, _, _, _, _, _, _, _, _, _, _, _, _, _, _, _, _, _, _, _, _, _, _, _, _, _, _, _, _, _, _, _, _, _, _, _, _, _, _, _, _, _, _, _, _, _, _, _, _, _, _, _]⟩ [] [_, _] rfl rfl rfl ?_
  refine JC_seq ?_
  refine JC_region ?_
  refine JL_assign rfl ?_
  refine JL_done_up 110 [] [_, _] rfl rfl (by simp only [nrmF]; rfl) rfl rfl ?_
  refine JC_seq ?_
  refine JC_seq ?_
  refine JC_region ?_
  refine JL_callF' Asks.nil (iawake_con) rfl ca9 rfl ?_
  rintro _ _ ⟨rfl, rfl⟩
  refine JL_not rfl ?_
  rw [Bool.not_true]
  refine JL_move rfl ?_
  refine JL_guard_yes rfl rfl ?_
  refine JL_move rfl ?_
  refine JL_guard_yes rfl rfl ?_
  refine JL_move rfl ?_
  refine JL_guard_yes rfl rfl ?_
  refine JL_callF' (Asks.cons (holds_of_mem (by repeat (first | with_reducible exact mm0 | refine mmS ?_))) (Asks.cons (holds_of_mem (by repeat (first | with_reducible exact mm0 | refine mmS ?_))) Asks.nil)) (few0_con) rfl ca10 ⟨rfl, rfl, rfl, rfl⟩ ?_
  rintro _ _ ⟨rfl, rfl⟩
  refine JL_split (fun h19 => ?_) (fun h19 => ?_)
  · refine JL_guard_yes rfl rfl ?_
    refine JL_not rfl ?_
    rw [Bool.not_true]
    refine JL_pick_f rfl rfl ?_
    refine JL_move rfl ?_
    refine JL_guard_yes rfl rfl ?_
    refine JL_move rfl ?_
    refine JL_guard_yes rfl rfl ?_
    refine JL_move rfl ?_
    refine JL_guard_yes rfl rfl ?_
    refine JL_callF' (Asks.cons (holds_of_mem (by repeat (first | with_reducible exact mm0 | refine mmS ?_))) (Asks.cons (holds_of_mem (by repeat (first | with_reducible exact mm0 | refine mmS ?_))) Asks.nil)) (rdata_con) rfl ca11 ⟨rfl, rfl, rfl⟩ ?_
    rintro _ _ ⟨rfl, rfl⟩
    refine JL_guard_yes rfl rfl ?_
    refine JL_neq rfl rfl ?_
    refine JL_split (fun h26 => ?_) (fun h26 => ?_)
    · refine JL_pick_f rfl rfl ?_
      refine JL_done_up 110 [] [_, _] rfl rfl (by simp only [nrmF]; rfl) rfl rfl ?_
      refine JC_true rfl ?_
      refine JC_seq ?_
      refine JC_region ?_
      refine JL_callF' Asks.nil (iawake_con) rfl ca9 rfl ?_
      rintro _ _ ⟨rfl, rfl⟩
      refine JL_assign rfl ?_
      refine JL_done_up 110 [] [_, _] rfl rfl (by simp only [nrmF]; rfl) rfl rfl ?_
      refine JC_ret ?_
      refine JE_then_ret ?_
      refine JE_ret (vs := [_]) [] Tryd.results4 ⟨rfl, rfl⟩ ?_ ?_
      · exact ⟨rfl, rfl⟩
      · exact all_nil
    · refine JL_pick_f rfl rfl ?_
      refine JL_done_up 110 [] [_, _] rfl rfl (by simp only [nrmF]; rfl) rfl rfl ?_
      refine JC_false rfl ?_
      refine JC_skip ?_
      refine JE_then ?_
      refine JC_seq ?_
      have hz : chk V W = 0 := Classical.byContradiction h26
      obtain ⟨hn, hvw, hok⟩ := chk_zero hz
      refine JC_region ?_
      refine JL_move rfl ?_
      refine JL_len sl22 rfl ?_
      refine JL_assign rfl ?_
      refine JL_done_up 110 [] [_, _] rfl rfl (by simp only [nrmF]; rfl) rfl rfl ?_
      refine JC_seq ?_
      refine JC_region ?_
      refine JL_move rfl ?_
      refine JL_make1 (turnXL V).length (turnXL V).length sl22 rfl rfl (by rw [turnXL_len]) (by rw [turnXL_len]) (Nat.le_refl _) (by rw [turnXL_len]; omega) (by rw [turnXL_len]; omega) (fun g32 => ?_)
      rw [i64s_replicate]
      rw [show i64s (List.replicate (turnXL V).length 0) = i64s (fillL (turnX V) zf V.length 0) from by rw [turnXL_len, fillZ]]
      refine JL_assign rfl ?_
      refine JL_done_up 110 [osl _ _ _ _ _ _] [_, _] rfl rfl (by simp only [nrmF]; rfl) rfl rfl ?_
      refine JC_seq ?_
      refine JC_region ?_
      refine JL_move rfl ?_
      refine JL_make1 (turnYL V W).length (turnYL V W).length sl22 rfl rfl (by rw [turnYL_len]) (by rw [turnYL_len]) (Nat.le_refl _) (by rw [turnYL_len]; omega) (by rw [turnYL_len]; omega) (fun g34 => ?_)
      rw [i64s_replicate]
      rw [show i64s (List.replicate (turnYL V W).length 0) = i64s (fillL (turnY V W) zf V.length 0) from by rw [turnYL_len, fillZ]]
      refine JL_assign rfl ?_
      refine JL_done_up 110 [osl _ _ _ _ _ _, osl _ _ _ _ _ _] [_, _] rfl rfl (by simp only [nrmF]; rfl) rfl rfl ?_
      refine JC_seq ?_
      refine JC_seq ?_
      refine JC_region ?_
      refine JL_assign rfl ?_
      refine JL_done_up 110 [osl _ _ _ _ _ _, osl _ _ _ _ _ _] [_, _] rfl rfl (by simp only [nrmF]; rfl) rfl rfl ?_
      refine JC_block ?_
      refine JC_loopS ((Nat)) (fun (i : Nat) => i ≤ V.length) (fun (i : Nat) => V.length - i) (fun u (i : Nat) => [none, none, none, none, none, none, none, none, some (.int .i64 (i : Nat)), none, none, none, none, none, none, none, none, none, none, none, none, none, none, none, none, none, none, none, none, none, none, none, none, none, none, some (u 35), some (u 36), some (u 37), some (u 38), some (u 39), some (u 40), some (u 41), some (u 42), some (u 43), some (u 44), some (u 45), some (u 46), some (u 47), some (u 48), some (u 49), some (u 50), some (u 51), some (u 52), some (u 53), some (u 54), some (u 55), some (u 56), some (u 57), some (u 58), some (u 59), some (u 60), none, none, none, none, none, none, none, none, none, none, none, none, none, none, none, none, none, none, none, none, none, none, none, none, none, none, none, none, none, none, none, none, none, none, none, none, none, none, none, none, none, none, none, none, none, none, none, none, none]) (fun (i : Nat) => [some (osl (some ⟨g32, 0, none⟩) (turnXL V).length (turnXL V).length 3 1 (i64s (fillL (turnX V) zf V.length i))), some (osl (some ⟨g34, 0, none⟩) (turnYL V W).length (turnYL V W).length 3 1 (i64s (fillL (turnY V W) zf V.length i)))]) (fun (i : Nat) => []) (0) (by kernel_rfl) ?_ (by kernel_rfl) ?_ ?_
      · exact Nat.zero_le _
      · exact subset_nil
      intro u i hi
      refine JC_norm ⟨110, [], [_, _, _, _, _, _, _, _, _, _, _, _, _, _, _, _, _, _, _, _, _, _, _, _, _, _, _, _, _, _, _, _, _, _, _, _, _, _, _, _, _, _, _, _, _, _, _, _, _, _, _, _, _, _, _, _, _, _, _, _, _, _, _, _, _, _, _, _, _, _, _, _, _, _, _, _, _, _, _, _, _, _, _, _, _, _, _, _, _, _, _, _, _, _, _, _, _, _, _, _, _, _, _, _, _, _, _, _, _, _]⟩ [osl _ _ _ _ _ _, osl _ _ _ _ _ _] [_, _] rfl rfl rfl ?_
      refine JC_seq ?_
      refine JC_seq ?_
      refine JC_region ?_
      refine JL_move rfl ?_
      refine JL_move rfl ?_
      refine JL_lss rfl rfl ?_
      refine JL_split (fun h37 => ?_) (fun h37 => ?_)
      · refine JL_done_up 110 [osl _ _ _ _ _ _, osl _ _ _ _ _ _] [_, _] rfl rfl (by simp only [nrmF]; rfl) rfl rfl ?_
        refine JC_true rfl ?_
        refine JC_skip ?_
        refine JE_then ?_
        refine JC_seq ?_
        refine JC_block ?_
        have hka := hok (V.length - 1 - i) (by omega)
        obtain ⟨x1, x2, x3, x4⟩ := hka
        refine JC_drawX mixed 20 [2, 3] [([2, 3], 4), ([2], 3), ([3], 3), ([], 2)] [spV 40 [] _, spV 41 [] _, spV 42 [] _, spV 43 [] _, spV 44 [] _, spV 45 [] _, spV 46 [5] _, spV 47 [] _, spV 48 [6, 7] _, spV 49 [4, 8] _, spV 50 [9] _, spV 51 [10] _, spV 52 [] _, spV 53 [] _, spV 54 [13] _, spV 55 [] _, spV 56 [14, 15] _, spV 57 [12, 16] _, spV 58 [17] _, spV 59 [0, 1] _] ⟨OblS_V (fun vals ex ψ => (by
            refine JL_normQ ⟨110, [(40, _), (41, _), (42, _), (43, _), (44, _), (45, _), (46, _), (47, _), (48, _), (49, _), (50, _), (51, _), (52, _), (53, _), (54, _), (55, _), (56, _), (57, _), (58, _), (59, _)], _⟩ (_ :: _ :: ψ) rfl rfl ?_
            refine JL_move rfl ?_
            exact JL_nil (JE_stepV rfl ss0))), OblS_V (fun vals ex ψ => (by
            refine JL_normQ ⟨110, [(40, _), (41, _), (42, _), (43, _), (44, _), (45, _), (46, _), (47, _), (48, _), (49, _), (50, _), (51, _), (52, _), (53, _), (54, _), (55, _), (56, _), (57, _), (58, _), (59, _)], _⟩ (_ :: _ :: ψ) rfl rfl ?_
            refine JL_move rfl ?_
            exact JL_nil (JE_stepV rfl ss0))), OblS_V (fun vals ex ψ => (by
            refine JL_normQ ⟨110, [(40, _), (41, _), (42, _), (43, _), (44, _), (45, _), (46, _), (47, _), (48, _), (49, _), (50, _), (51, _), (52, _), (53, _), (54, _), (55, _), (56, _), (57, _), (58, _), (59, _)], _⟩ (_ :: _ :: ψ) rfl rfl ?_
            refine JL_move rfl ?_
            exact JL_nil (JE_stepV rfl ss0))), OblS_V (fun vals ex ψ => (by
            refine JL_normQ ⟨110, [(40, _), (41, _), (42, _), (43, _), (44, _), (45, _), (46, _), (47, _), (48, _), (49, _), (50, _), (51, _), (52, _), (53, _), (54, _), (55, _), (56, _), (57, _), (58, _), (59, _)], _⟩ (_ :: _ :: ψ) rfl rfl ?_
            refine JL_move rfl ?_
            exact JL_nil (JE_stepV rfl ss0))), OblS_V (fun vals ex ψ => (by
            refine JL_normQ ⟨110, [(40, _), (41, _), (42, _), (43, _), (44, _), (45, _), (46, _), (47, _), (48, _), (49, _), (50, _), (51, _), (52, _), (53, _), (54, _), (55, _), (56, _), (57, _), (58, _), (59, _)], _⟩ (_ :: _ :: ψ) rfl rfl ?_
            refine JL_move rfl ?_
            exact JL_nil (JE_stepV rfl ss0))), OblS_V (fun vals ex ψ => (by
            refine JL_normQ ⟨110, [(40, _), (41, _), (42, _), (43, _), (44, _), (45, _), (46, _), (47, _), (48, _), (49, _), (50, _), (51, _), (52, _), (53, _), (54, _), (55, _), (56, _), (57, _), (58, _), (59, _)], _⟩ (_ :: _ :: ψ) rfl rfl ?_
            refine JL_move rfl ?_
            exact JL_nil (JE_stepV rfl ss0))), OblS_V (fun vals ex ψ => (by
            refine JL_normQ ⟨110, [(40, _), (41, _), (42, _), (43, _), (44, _), (45, _), (46, _), (47, _), (48, _), (49, _), (50, _), (51, _), (52, _), (53, _), (54, _), (55, _), (56, _), (57, _), (58, _), (59, _)], _⟩ (_ :: _ :: ψ) rfl rfl ?_
            refine JL_sub_to rfl rfl (IntWalk.i64_in _ (by omega)) ?_
            exact JL_nil (JE_stepV rfl ss0))), OblS_V (fun vals ex ψ => (by
            refine JL_normQ ⟨110, [(40, _), (41, _), (42, _), (43, _), (44, _), (45, _), (46, _), (47, _), (48, _), (49, _), (50, _), (51, _), (52, _), (53, _), (54, _), (55, _), (56, _), (57, _), (58, _), (59, _)], _⟩ (_ :: _ :: ψ) rfl rfl ?_
            refine JL_move rfl ?_
            exact JL_nil (JE_stepV rfl ss0))), OblS_V (fun vals ex ψ => (by
            refine JL_normQ ⟨110, [(40, _), (41, _), (42, _), (43, _), (44, _), (45, _), (46, _), (47, _), (48, _), (49, _), (50, _), (51, _), (52, _), (53, _), (54, _), (55, _), (56, _), (57, _), (58, _), (59, _)], _⟩ (_ :: _ :: ψ) rfl rfl ?_
            refine JL_sub_to rfl rfl (IntWalk.i64_in _ (by omega)) ?_
            rw [show ((V.length : Int) - 1 - (i : Int) : Int) = ((V.length - 1 - i : Nat) : Int) from by omega]
            exact JL_nil (JE_stepV rfl ss0))), OblS_V (fun vals ex ψ => (by
            refine JL_normQ ⟨110, [(40, _), (41, _), (42, _), (43, _), (44, _), (45, _), (46, _), (47, _), (48, _), (49, _), (50, _), (51, _), (52, _), (53, _), (54, _), (55, _), (56, _), (57, _), (58, _), (59, _)], _⟩ (_ :: _ :: ψ) rfl rfl ?_
            refine JL_idx (V.length - 1 - i) sl22 rfl rfl rfl (by omega) (by first | exact Reads.view (by repeat (first | with_reducible exact mm0 | refine mmS ?_)) | (exact Reads.own 0 rfl) | (exact Reads.own 1 rfl)) (by first | (rw [u32s_length]; omega) | (rw [i64s_length]; omega)) ?_
            exact JL_nil (JE_stepV rfl ss0))), OblS_V (fun vals ex ψ => (by
            refine JL_normQ ⟨110, [(40, _), (41, _), (42, _), (43, _), (44, _), (45, _), (46, _), (47, _), (48, _), (49, _), (50, _), (51, _), (52, _), (53, _), (54, _), (55, _), (56, _), (57, _), (58, _), (59, _)], _⟩ (_ :: _ :: ψ) rfl rfl ?_
            refine JL_loadE ty3 rfl (by first | exact Reads.view (by repeat (first | with_reducible exact mm0 | refine mmS ?_)) | (exact Reads.own 0 rfl) | (exact Reads.own 1 rfl)) (i64s_get (by omega)) ?_
            exact JL_nil (JE_stepV rfl ss0))), OblS_V (fun vals ex ψ => (by
            refine JL_normQ ⟨110, [(40, _), (41, _), (42, _), (43, _), (44, _), (45, _), (46, _), (47, _), (48, _), (49, _), (50, _), (51, _), (52, _), (53, _), (54, _), (55, _), (56, _), (57, _), (58, _), (59, _)], _⟩ (_ :: _ :: ψ) rfl rfl ?_
            refine JL_neg_to rfl (IntWalk.i64_in _ (by omega)) ?_
            rw [show (0 - V.getD (V.length - 1 - i) 0 : Int) = turnX V i from by unfold turnX; omega]
            exact JL_nil (JE_stepV rfl ss0))), OblS_V (fun vals ex ψ => (by
            refine JL_normQ ⟨110, [(40, _), (41, _), (42, _), (43, _), (44, _), (45, _), (46, _), (47, _), (48, _), (49, _), (50, _), (51, _), (52, _), (53, _), (54, _), (55, _), (56, _), (57, _), (58, _), (59, _)], _⟩ (_ :: _ :: ψ) rfl rfl ?_
            refine JL_move rfl ?_
            exact JL_nil (JE_stepV rfl ss0))), OblS_V (fun vals ex ψ => (by
            refine JL_normQ ⟨110, [(40, _), (41, _), (42, _), (43, _), (44, _), (45, _), (46, _), (47, _), (48, _), (49, _), (50, _), (51, _), (52, _), (53, _), (54, _), (55, _), (56, _), (57, _), (58, _), (59, _)], _⟩ (_ :: _ :: ψ) rfl rfl ?_
            refine JL_move rfl ?_
            exact JL_nil (JE_stepV rfl ss0))), OblS_V (fun vals ex ψ => (by
            refine JL_normQ ⟨110, [(40, _), (41, _), (42, _), (43, _), (44, _), (45, _), (46, _), (47, _), (48, _), (49, _), (50, _), (51, _), (52, _), (53, _), (54, _), (55, _), (56, _), (57, _), (58, _), (59, _)], _⟩ (_ :: _ :: ψ) rfl rfl ?_
            refine JL_sub_to rfl rfl (IntWalk.i64_in _ (by omega)) ?_
            exact JL_nil (JE_stepV rfl ss0))), OblS_V (fun vals ex ψ => (by
            refine JL_normQ ⟨110, [(40, _), (41, _), (42, _), (43, _), (44, _), (45, _), (46, _), (47, _), (48, _), (49, _), (50, _), (51, _), (52, _), (53, _), (54, _), (55, _), (56, _), (57, _), (58, _), (59, _)], _⟩ (_ :: _ :: ψ) rfl rfl ?_
            refine JL_move rfl ?_
            exact JL_nil (JE_stepV rfl ss0))), OblS_V (fun vals ex ψ => (by
            refine JL_normQ ⟨110, [(40, _), (41, _), (42, _), (43, _), (44, _), (45, _), (46, _), (47, _), (48, _), (49, _), (50, _), (51, _), (52, _), (53, _), (54, _), (55, _), (56, _), (57, _), (58, _), (59, _)], _⟩ (_ :: _ :: ψ) rfl rfl ?_
            refine JL_sub_to rfl rfl (IntWalk.i64_in _ (by omega)) ?_
            rw [show ((V.length : Int) - 1 - (i : Int) : Int) = ((V.length - 1 - i : Nat) : Int) from by omega]
            exact JL_nil (JE_stepV rfl ss0))), OblS_V (fun vals ex ψ => (by
            refine JL_normQ ⟨110, [(40, _), (41, _), (42, _), (43, _), (44, _), (45, _), (46, _), (47, _), (48, _), (49, _), (50, _), (51, _), (52, _), (53, _), (54, _), (55, _), (56, _), (57, _), (58, _), (59, _)], _⟩ (_ :: _ :: ψ) rfl rfl ?_
            refine JL_idx (V.length - 1 - i) sl22 rfl rfl rfl (by omega) (by first | exact Reads.view (by repeat (first | with_reducible exact mm0 | refine mmS ?_)) | (exact Reads.own 0 rfl) | (exact Reads.own 1 rfl)) (by first | (rw [u32s_length]; omega) | (rw [i64s_length]; omega)) ?_
            exact JL_nil (JE_stepV rfl ss0))), OblS_V (fun vals ex ψ => (by
            refine JL_normQ ⟨110, [(40, _), (41, _), (42, _), (43, _), (44, _), (45, _), (46, _), (47, _), (48, _), (49, _), (50, _), (51, _), (52, _), (53, _), (54, _), (55, _), (56, _), (57, _), (58, _), (59, _)], _⟩ (_ :: _ :: ψ) rfl rfl ?_
            refine JL_loadE ty3 rfl (by first | exact Reads.view (by repeat (first | with_reducible exact mm0 | refine mmS ?_)) | (exact Reads.own 0 rfl) | (exact Reads.own 1 rfl)) (i64s_get (by omega)) ?_
            rw [show W.getD (V.length - 1 - i) 0 = turnY V W i from rfl]
            exact JL_nil (JE_stepV rfl ss0))), OblS_V (fun vals ex ψ => (by
            refine JL_normQ ⟨110, [(40, _), (41, _), (42, _), (43, _), (44, _), (45, _), (46, _), (47, _), (48, _), (49, _), (50, _), (51, _), (52, _), (53, _), (54, _), (55, _), (56, _), (57, _), (58, _), (59, _)], _⟩ (_ :: _ :: ψ) rfl rfl ?_
            refine JL_idx i sl22 rfl rfl rfl (by rw [turnXL_len]; omega) (Reads.own 0 rfl) (by rw [i64s_length, fillL_len]; omega) ?_
            exact JL_nil (JE_stepV rfl ss0))), trivial⟩ (by kernel_rfl) rfl rfl ⟨fun vals bs r => ?_, fun vals bs r => ?_, fun vals bs r => ?_, fun vals bs r => ?_, trivial⟩
        · refine JL_normL [_] ⟨110, [(40, _), (41, _), (42, _), (43, _), (44, _), (45, _), (46, _), (47, _), (48, _), (49, _), (50, _), (51, _), (52, _), (53, _), (54, _), (55, _), (56, _), (57, _), (58, _), (59, _)], _⟩ [osl _ _ _ _ _ _, osl _ _ _ _ _ _] [_, _, _, _] rfl rfl rfl rfl ?_
          generalize vals (0 + 1 + 1) = x42
          generalize vals (0 + 1 + 1 + 1) = x43
          refine JL_storeI 0 ty3 rfl rfl rfl (by rw [fillL_len]; omega) ?_
          refine JL_nil_up 110 [osl _ _ _ _ _ _, osl _ _ _ _ _ _] [_, _, _, _] rfl rfl (by simp only [nrmF]; rfl) rfl rfl ?_
          refine JE_nextA ?_
          refine JA_step [2, 3] (by kernel_rfl) (by simp) ⟨⟨_, rfl, ?_⟩, ⟨_, rfl, ?_⟩, trivial⟩
          · refine JL_move rfl ?_
            refine JL_nil_up 110 [osl _ _ _ _ _ _, osl _ _ _ _ _ _] [_, _, _, _] rfl rfl (by simp only [nrmF]; rfl) rfl rfl ?_
            refine JE_nextA ?_
            refine JA_step [3] (by kernel_rfl) (by simp) ⟨⟨_, rfl, ?_⟩, trivial⟩
            refine JL_move rfl ?_
            refine JL_nil_up 110 [osl _ _ _ _ _ _, osl _ _ _ _ _ _] [_, _, _, _] rfl rfl (by simp only [nrmF]; rfl) rfl rfl ?_
            refine JE_nextA ?_
            refine JA_step [21] (by kernel_rfl) (by simp) ⟨⟨_, rfl, ?_⟩, trivial⟩
            refine JL_idx i sl22 rfl rfl rfl (by rw [turnYL_len]; omega) (Reads.own 1 rfl) (by rw [i64s_length, fillL_len]; omega) ?_
            refine JL_nil_up 110 [osl _ _ _ _ _ _, osl _ _ _ _ _ _] [_, _, _, _] rfl rfl (by simp only [nrmF]; rfl) rfl rfl ?_
            refine JE_nextA ?_
            refine JA_step [22] (by kernel_rfl) (by simp) ⟨⟨_, rfl, ?_⟩, trivial⟩
            refine JL_storeI 1 ty3 rfl rfl rfl (by rw [fillL_len]; omega) ?_
            refine JL_nil_up 110 [osl _ _ _ _ _ _, osl _ _ _ _ _ _] [_, _, _, _] rfl rfl (by simp only [nrmF]; rfl) rfl rfl ?_
            refine JE_nextA ?_
            refine JA_end (by kernel_rfl) ?_
            refine JE_block_normal ?_
            refine JE_then ?_
            refine JC_region ?_
            refine JL_move rfl ?_
            refine JL_add_to rfl rfl (IntWalk.i64_in _ (by omega)) ?_
            refine JL_assign rfl ?_
            refine JL_nil_up 110 [osl _ _ _ _ _ _, osl _ _ _ _ _ _] [_, _, _, _] rfl rfl (by simp only [nrmF]; rfl) rfl rfl ?_
            rw [fillL_set (turnX V) zf V.length i, fillL_set (turnY V W) zf V.length i]
            refine JE_nextS (i + 1) (by kernel_rfl) ?_ ?_ (by kernel_rfl) ?_
            · exact (by omega : i + 1 ≤ V.length)
            · first | omega | (dsimp only; omega)
            · exact subset_app subset_nil (ssS (ssS ss0))
          · refine JL_move rfl ?_
            refine JL_nil_up 110 [osl _ _ _ _ _ _, osl _ _ _ _ _ _] [_, _, _, _] rfl rfl (by simp only [nrmF]; rfl) rfl rfl ?_
            refine JE_nextA ?_
            refine JA_step [2] (by kernel_rfl) (by simp) ⟨⟨_, rfl, ?_⟩, trivial⟩
            refine JL_move rfl ?_
            refine JL_nil_up 110 [osl _ _ _ _ _ _, osl _ _ _ _ _ _] [_, _, _, _] rfl rfl (by simp only [nrmF]; rfl) rfl rfl ?_
            refine JE_nextA ?_
            refine JA_step [21] (by kernel_rfl) (by simp) ⟨⟨_, rfl, ?_⟩, trivial⟩
            refine JL_idx i sl22 rfl rfl rfl (by rw [turnYL_len]; omega) (Reads.own 1 rfl) (by rw [i64s_length, fillL_len]; omega) ?_
            refine JL_nil_up 110 [osl _ _ _ _ _ _, osl _ _ _ _ _ _] [_, _, _, _] rfl rfl (by simp only [nrmF]; rfl) rfl rfl ?_
            refine JE_nextA ?_
            refine JA_step [22] (by kernel_rfl) (by simp) ⟨⟨_, rfl, ?_⟩, trivial⟩
            refine JL_storeI 1 ty3 rfl rfl rfl (by rw [fillL_len]; omega) ?_
            refine JL_nil_up 110 [osl _ _ _ _ _ _, osl _ _ _ _ _ _] [_, _, _, _] rfl rfl (by simp only [nrmF]; rfl) rfl rfl ?_
            refine JE_nextA ?_
            refine JA_end (by kernel_rfl) ?_
            refine JE_block_normal ?_
            refine JE_then ?_
            refine JC_region ?_
            refine JL_move rfl ?_
            refine JL_add_to rfl rfl (IntWalk.i64_in _ (by omega)) ?_
            refine JL_assign rfl ?_
            refine JL_nil_up 110 [osl _ _ _ _ _ _, osl _ _ _ _ _ _] [_, _, _, _] rfl rfl (by simp only [nrmF]; rfl) rfl rfl ?_
            rw [fillL_set (turnX V) zf V.length i, fillL_set (turnY V W) zf V.length i]
            refine JE_nextS (i + 1) (by kernel_rfl) ?_ ?_ (by kernel_rfl) ?_
            · exact (by omega : i + 1 ≤ V.length)
            · first | omega | (dsimp only; omega)
            · exact subset_app subset_nil (ssS (ssS ss0))
        · refine JL_normL [_] ⟨110, [(40, _), (41, _), (42, _), (43, _), (44, _), (45, _), (46, _), (47, _), (48, _), (49, _), (50, _), (51, _), (52, _), (53, _), (54, _), (55, _), (56, _), (57, _), (58, _), (59, _)], _⟩ [osl _ _ _ _ _ _, osl _ _ _ _ _ _] [_, _, _] rfl rfl rfl rfl ?_
          generalize vals (0 + 1 + 1) = x42
          refine JL_storeI 0 ty3 rfl rfl rfl (by rw [fillL_len]; omega) ?_
          refine JL_nil_up 110 [osl _ _ _ _ _ _, osl _ _ _ _ _ _] [_, _, _] rfl rfl (by simp only [nrmF]; rfl) rfl rfl ?_
          refine JE_nextA ?_
          refine JA_step [2] (by kernel_rfl) (by simp) ⟨⟨_, rfl, ?_⟩, trivial⟩
          refine JL_move rfl ?_
          refine JL_nil_up 110 [osl _ _ _ _ _ _, osl _ _ _ _ _ _] [_, _, _] rfl rfl (by simp only [nrmF]; rfl) rfl rfl ?_
          refine JE_nextA ?_
          refine JA_step [21] (by kernel_rfl) (by simp) ⟨⟨_, rfl, ?_⟩, trivial⟩
          refine JL_idx i sl22 rfl rfl rfl (by rw [turnYL_len]; omega) (Reads.own 1 rfl) (by rw [i64s_length, fillL_len]; omega) ?_
          refine JL_nil_up 110 [osl _ _ _ _ _ _, osl _ _ _ _ _ _] [_, _, _] rfl rfl (by simp only [nrmF]; rfl) rfl rfl ?_
          refine JE_nextA ?_
          refine JA_step [22] (by kernel_rfl) (by simp) ⟨⟨_, rfl, ?_⟩, trivial⟩
          refine JL_storeI 1 ty3 rfl rfl rfl (by rw [fillL_len]; omega) ?_
          refine JL_nil_up 110 [osl _ _ _ _ _ _, osl _ _ _ _ _ _] [_, _, _] rfl rfl (by simp only [nrmF]; rfl) rfl rfl ?_
          refine JE_nextA ?_
          refine JA_end (by kernel_rfl) ?_
          refine JE_block_normal ?_
          refine JE_then ?_
          refine JC_region ?_
          refine JL_move rfl ?_
          refine JL_add_to rfl rfl (IntWalk.i64_in _ (by omega)) ?_
          refine JL_assign rfl ?_
          refine JL_nil_up 110 [osl _ _ _ _ _ _, osl _ _ _ _ _ _] [_, _, _] rfl rfl (by simp only [nrmF]; rfl) rfl rfl ?_
          rw [fillL_set (turnX V) zf V.length i, fillL_set (turnY V W) zf V.length i]
          refine JE_nextS (i + 1) (by kernel_rfl) ?_ ?_ (by kernel_rfl) ?_
          · exact (by omega : i + 1 ≤ V.length)
          · first | omega | (dsimp only; omega)
          · exact subset_app subset_nil (ssS ss0)
        · refine JL_normL [_] ⟨110, [(40, _), (41, _), (42, _), (43, _), (44, _), (45, _), (46, _), (47, _), (48, _), (49, _), (50, _), (51, _), (52, _), (53, _), (54, _), (55, _), (56, _), (57, _), (58, _), (59, _)], _⟩ [osl _ _ _ _ _ _, osl _ _ _ _ _ _] [_, _, _] rfl rfl rfl rfl ?_
          generalize vals (0 + 1 + 1 + 1) = x43
          refine JL_storeI 0 ty3 rfl rfl rfl (by rw [fillL_len]; omega) ?_
          refine JL_nil_up 110 [osl _ _ _ _ _ _, osl _ _ _ _ _ _] [_, _, _] rfl rfl (by simp only [nrmF]; rfl) rfl rfl ?_
          refine JE_nextA ?_
          refine JA_step [3] (by kernel_rfl) (by simp) ⟨⟨_, rfl, ?_⟩, trivial⟩
          refine JL_move rfl ?_
          refine JL_nil_up 110 [osl _ _ _ _ _ _, osl _ _ _ _ _ _] [_, _, _] rfl rfl (by simp only [nrmF]; rfl) rfl rfl ?_
          refine JE_nextA ?_
          refine JA_step [21] (by kernel_rfl) (by simp) ⟨⟨_, rfl, ?_⟩, trivial⟩
          refine JL_idx i sl22 rfl rfl rfl (by rw [turnYL_len]; omega) (Reads.own 1 rfl) (by rw [i64s_length, fillL_len]; omega) ?_
          refine JL_nil_up 110 [osl _ _ _ _ _ _, osl _ _ _ _ _ _] [_, _, _] rfl rfl (by simp only [nrmF]; rfl) rfl rfl ?_
          refine JE_nextA ?_
          refine JA_step [22] (by kernel_rfl) (by simp) ⟨⟨_, rfl, ?_⟩, trivial⟩
          refine JL_storeI 1 ty3 rfl rfl rfl (by rw [fillL_len]; omega) ?_
          refine JL_nil_up 110 [osl _ _ _ _ _ _, osl _ _ _ _ _ _] [_, _, _] rfl rfl (by simp only [nrmF]; rfl) rfl rfl ?_
          refine JE_nextA ?_
          refine JA_end (by kernel_rfl) ?_
          refine JE_block_normal ?_
          refine JE_then ?_
          refine JC_region ?_
          refine JL_move rfl ?_
          refine JL_add_to rfl rfl (IntWalk.i64_in _ (by omega)) ?_
          refine JL_assign rfl ?_
          refine JL_nil_up 110 [osl _ _ _ _ _ _, osl _ _ _ _ _ _] [_, _, _] rfl rfl (by simp only [nrmF]; rfl) rfl rfl ?_
          rw [fillL_set (turnX V) zf V.length i, fillL_set (turnY V W) zf V.length i]
          refine JE_nextS (i + 1) (by kernel_rfl) ?_ ?_ (by kernel_rfl) ?_
          · exact (by omega : i + 1 ≤ V.length)
          · first | omega | (dsimp only; omega)
          · exact subset_app subset_nil (ssS ss0)
        · refine JL_normL [_] ⟨110, [(40, _), (41, _), (42, _), (43, _), (44, _), (45, _), (46, _), (47, _), (48, _), (49, _), (50, _), (51, _), (52, _), (53, _), (54, _), (55, _), (56, _), (57, _), (58, _), (59, _)], _⟩ [osl _ _ _ _ _ _, osl _ _ _ _ _ _] [_, _] rfl rfl rfl rfl ?_
          refine JL_storeI 0 ty3 rfl rfl rfl (by rw [fillL_len]; omega) ?_
          refine JL_nil_up 110 [osl _ _ _ _ _ _, osl _ _ _ _ _ _] [_, _] rfl rfl (by simp only [nrmF]; rfl) rfl rfl ?_
          refine JE_nextA ?_
          refine JA_step [21] (by kernel_rfl) (by simp) ⟨⟨_, rfl, ?_⟩, trivial⟩
          refine JL_idx i sl22 rfl rfl rfl (by rw [turnYL_len]; omega) (Reads.own 1 rfl) (by rw [i64s_length, fillL_len]; omega) ?_
          refine JL_nil_up 110 [osl _ _ _ _ _ _, osl _ _ _ _ _ _] [_, _] rfl rfl (by simp only [nrmF]; rfl) rfl rfl ?_
          refine JE_nextA ?_
          refine JA_step [22] (by kernel_rfl) (by simp) ⟨⟨_, rfl, ?_⟩, trivial⟩
          refine JL_storeI 1 ty3 rfl rfl rfl (by rw [fillL_len]; omega) ?_
          refine JL_nil_up 110 [osl _ _ _ _ _ _, osl _ _ _ _ _ _] [_, _] rfl rfl (by simp only [nrmF]; rfl) rfl rfl ?_
          refine JE_nextA ?_
          refine JA_end (by kernel_rfl) ?_
          refine JE_block_normal ?_
          refine JE_then ?_
          refine JC_region ?_
          refine JL_move rfl ?_
          refine JL_add_to rfl rfl (IntWalk.i64_in _ (by omega)) ?_
          refine JL_assign rfl ?_
          refine JL_nil_up 110 [osl _ _ _ _ _ _, osl _ _ _ _ _ _] [_, _] rfl rfl (by simp only [nrmF]; rfl) rfl rfl ?_
          rw [fillL_set (turnX V) zf V.length i, fillL_set (turnY V W) zf V.length i]
          refine JE_nextS (i + 1) (by kernel_rfl) ?_ ?_ (by kernel_rfl) ?_
          · exact (by omega : i + 1 ≤ V.length)
          · first | omega | (dsimp only; omega)
          · exact subset_app subset_nil ss0
      · refine JL_done_up 110 [osl _ _ _ _ _ _, osl _ _ _ _ _ _] [_, _] rfl rfl (by simp only [nrmF]; rfl) rfl rfl ?_
        refine JC_false rfl ?_
        refine JC_exit ?_
        refine JE_then_exit ?_
        refine JE_nextS_exit ?_
        refine JE_block_exit ?_
        refine JE_then ?_
        refine JC_seq ?_
        have hie : i = V.length := by omega
        subst hie
        rw [show fillL (turnX V) zf V.length V.length = turnXL V from fillL_full _ _ _, show fillL (turnY V W) zf V.length V.length = turnYL V W from fillL_full _ _ _]
        refine JC_region ?_
        refine JL_move rfl ?_
        refine JL_move rfl ?_
        refine JL_callF' (Asks.cons (by first | exact holds_of_mem (by repeat (first | with_reducible exact mm0 | refine mmS ?_)) | (exact holds_of_own 0 rfl) | (exact holds_of_own 1 rfl)) (Asks.cons (by first | exact holds_of_mem (by repeat (first | with_reducible exact mm0 | refine mmS ?_)) | (exact holds_of_own 0 rfl) | (exact holds_of_own 1 rfl)) Asks.nil)) (ifit_con) rfl ca13 ⟨rfl, rfl, rfl⟩ ?_
        rintro _ _ ⟨ad64, c64, l64, rfl, hl64, rfl⟩
        rw [hz]
        have hn64 := fes_flen hz hl64
        refine JL_move rfl ?_
        refine JL_extract rfl rfl ?_
        refine JL_extract rfl rfl ?_
        refine JL_assign rfl ?_
        refine JL_assign rfl ?_
        refine JL_done_up 110 [osl _ _ _ _ _ _, osl _ _ _ _ _ _] [_, _, _, _] rfl rfl (by simp only [nrmF]; rfl) rfl rfl ?_
        refine JC_seq ?_
        refine JC_region ?_
        refine JL_move rfl ?_
        refine JL_move rfl ?_
        refine JL_give 0 rfl ?_
        refine JL_norm _ [osl _ _ _ _ _ _] [_, _, _, _, _] rfl rfl rfl ?_
        refine JL_give 0 rfl ?_
        refine JL_norm _ [] [_, _, _, _, _, _] rfl rfl rfl ?_
        refine JL_callF' (Asks.cons (holds_of_mem (by repeat (first | with_reducible exact mm0 | refine mmS ?_))) (Asks.cons (holds_of_mem (by repeat (first | with_reducible exact mm0 | refine mmS ?_))) Asks.nil)) (ifit_con (V := turnXL V) (W := turnYL V W)) rfl ca13 ⟨rfl, rfl, rfl⟩ ?_
        rintro _ _ ⟨ad70, c70, l70, rfl, hl70, rfl⟩
        rw [turn_chk hz]
        have hn70 := fes_flen (turn_chk hz) hl70
        rw [turnXL_len] at hn70
        refine JL_move rfl ?_
        refine JL_extract rfl rfl ?_
        refine JL_extract rfl rfl ?_
        refine JL_assign rfl ?_
        refine JL_assign rfl ?_
        refine JL_done_up 110 [] [_, _, _, _, _, _, _, _] rfl rfl (by simp only [nrmF]; rfl) rfl rfl ?_
        refine JC_seq ?_
        refine JC_seq ?_
        refine JC_region ?_
        refine JL_move rfl ?_
        refine JL_neq rfl rfl ?_
        refine JL_split (fun h74 => ?_) (fun h74 => ?_)
        · exact absurd rfl h74
        · refine JL_move rfl ?_
          refine JL_guard_yes rfl rfl ?_
          refine JL_move rfl ?_
          refine JL_guard_yes rfl rfl ?_
          refine JL_neq rfl rfl ?_
          refine JL_split (fun h77 => ?_) (fun h77 => ?_)
          · exact absurd rfl h77
          · refine JL_pick_f rfl rfl ?_
            refine JL_move rfl ?_
            refine JL_guard_yes rfl rfl ?_
            refine JL_move rfl ?_
            refine JL_guard_yes rfl rfl ?_
            refine JL_len sl28 rfl ?_
            refine JL_guard_yes rfl rfl ?_
            refine JL_move rfl ?_
            refine JL_guard_yes rfl rfl ?_
            refine JL_neq rfl rfl ?_
            refine JL_split (fun h83 => ?_) (fun h83 => ?_)
            · exact absurd hn64 (by omega)
            · refine JL_pick_f rfl rfl ?_
              refine JL_move rfl ?_
              refine JL_guard_yes rfl rfl ?_
              refine JL_move rfl ?_
              refine JL_guard_yes rfl rfl ?_
              refine JL_len sl28 rfl ?_
              refine JL_guard_yes rfl rfl ?_
              refine JL_move rfl ?_
              refine JL_guard_yes rfl rfl ?_
              refine JL_neq rfl rfl ?_
              refine JL_split (fun h89 => ?_) (fun h89 => ?_)
              · exact absurd hn70 (by omega)
              · refine JL_pick_f rfl rfl ?_
                refine JL_done_up 110 [] [_, _, _, _, _, _, _, _] rfl rfl (by simp only [nrmF]; rfl) rfl rfl ?_
                refine JC_false rfl ?_
                refine JC_skip ?_
                refine JE_then ?_
                refine JC_seq ?_
                refine JC_seq ?_
                refine JC_region ?_
                refine JL_assign rfl ?_
                refine JL_done_up 110 [] [_, _, _, _, _, _, _, _] rfl rfl (by simp only [nrmF]; rfl) rfl rfl ?_
                refine JC_block ?_
                refine JC_loopS ((Nat)) (fun (j : Nat) => j ≤ V.length) (fun (j : Nat) => V.length - j) (fun u (j : Nat) => [none, none, none, none, some (u 4), none, none, none, none, none, none, none, none, some (.int .i64 (j : Nat)), none, none, none, none, none, none, none, none, none, none, none, none, none, none, none, none, none, none, none, none, none, none, none, none, none, none, none, none, none, none, none, none, none, none, none, none, none, none, none, none, none, none, none, none, none, none, none, none, none, none, none, none, none, none, none, none, none, none, none, none, none, none, none, none, none, none, none, none, none, none, none, none, none, none, none, none, none, some (u 91), some (u 92), some (u 93), some (u 94), some (u 95), some (u 96), some (u 97), some (u 98), some (u 99), some (u 100), some (u 101), some (u 102), some (u 103), some (u 104), some (u 105), some (u 106), some (u 107), some (u 108), some (u 109)]) (fun (j : Nat) => []) (fun (j : Nat) => []) (0) (by kernel_rfl) ?_ (by kernel_rfl) ?_ ?_
                · exact Nat.zero_le _
                · exact subset_nil
                intro u j hj
                refine JC_norm ⟨110, [], [_, _, _, _, _, _, _, _, _, _, _, _, _, _, _, _, _, _, _, _, _, _, _, _, _, _, _, _, _, _, _, _, _, _, _, _, _, _, _, _, _, _, _, _, _, _, _, _, _, _, _, _, _, _, _, _, _, _, _, _, _, _, _, _, _, _, _, _, _, _, _, _, _, _, _, _, _, _, _, _, _, _, _, _, _, _, _, _, _, _, _, _, _, _, _, _, _, _, _, _, _, _, _, _, _, _, _, _, _, _]⟩ [] [_, _, _, _, _, _, _, _] rfl rfl rfl ?_
                refine JC_seq ?_
                refine JC_seq ?_
                refine JC_region ?_
                refine JL_move rfl ?_
                refine JL_move rfl ?_
                refine JL_lss rfl rfl ?_
                refine JL_split (fun h93 => ?_) (fun h93 => ?_)
                · refine JL_done_up 110 [] [_, _, _, _, _, _, _, _] rfl rfl (by simp only [nrmF]; rfl) rfl rfl ?_
                  refine JC_true rfl ?_
                  refine JC_skip ?_
                  refine JE_then ?_
                  refine JC_seq ?_
                  refine JC_block ?_
                  refine JC_seq ?_
                  refine JC_fesGet (f := true) (l := l64) (l64.getD j dF) (by repeat (first | with_reducible exact mm0 | refine mmS ?_)) (getD_mem (by omega)) ?_
                  refine JC_fesGet (f := true) (l := l70) (l70.getD (V.length - 1 - j) dF) (by repeat (first | with_reducible exact mm0 | refine mmS ?_)) (getD_mem (by omega)) ?_
                  refine JC_drawT mixed 12 [spV 96 [] _, spV 97 [] _, spV 98 [0, 1] _, spV 99 [2] _, spC 100 [3] _, spV 101 [] _, spV 102 [] _, spV 103 [6] _, spV 104 [] _, spV 105 [7, 8] _, spV 106 [5, 9] _, spV 107 [10] _] ⟨OblS_V (fun vals ex ψ => (by
                      refine JL_normQ ⟨110, [(96, _), (97, _), (98, _), (99, _), (100, _), (101, _), (102, _), (103, _), (104, _), (105, _), (106, _), (107, _)], _⟩ (_ :: _ :: _ :: _ :: _ :: _ :: _ :: _ :: _ :: _ :: _ :: _ :: ψ) rfl rfl ?_
                      refine JL_move rfl ?_
                      exact JL_nil (JE_stepV rfl ss0))), OblS_V (fun vals ex ψ => (by
                      refine JL_normQ ⟨110, [(96, _), (97, _), (98, _), (99, _), (100, _), (101, _), (102, _), (103, _), (104, _), (105, _), (106, _), (107, _)], _⟩ (_ :: _ :: _ :: _ :: _ :: _ :: _ :: _ :: _ :: _ :: _ :: _ :: ψ) rfl rfl ?_
                      refine JL_move rfl ?_
                      exact JL_nil (JE_stepV rfl ss0))), OblS_V (fun vals ex ψ => (by
                      refine JL_normQ ⟨110, [(96, _), (97, _), (98, _), (99, _), (100, _), (101, _), (102, _), (103, _), (104, _), (105, _), (106, _), (107, _)], _⟩ (_ :: _ :: _ :: _ :: _ :: _ :: _ :: _ :: _ :: _ :: _ :: _ :: ψ) rfl rfl ?_
                      refine JL_indexAddr j sl28 rfl rfl rfl (by omega) (by first | exact Reads.view (by repeat (first | with_reducible exact mm0 | refine mmS ?_))) (by rw [fcells_length]; omega) ?_
                      exact JL_nil (JE_stepV rfl ss0))), OblS_V (fun vals ex ψ => (by
                      refine JL_normQ ⟨110, [(96, _), (97, _), (98, _), (99, _), (100, _), (101, _), (102, _), (103, _), (104, _), (105, _), (106, _), (107, _)], _⟩ (_ :: _ :: _ :: _ :: _ :: _ :: _ :: _ :: _ :: _ :: _ :: _ :: ψ) rfl rfl ?_
                      refine JL_loadEA (vs := [_, _, _]) ty36 (Nat.zero_lt_succ _) rfl (by first | exact Reads.view (by repeat (first | with_reducible exact mm0 | refine mmS ?_))) (fcells_getA (by omega)) ?_
                      exact JL_nil (JE_stepV rfl ss0))), OblS_C (fun vals ex ψ => (by
                      refine JL_normQ ⟨110, [(96, _), (97, _), (98, _), (99, _), (100, _), (101, _), (102, _), (103, _), (104, _), (105, _), (106, _), (107, _)], _⟩ (_ :: _ :: _ :: _ :: _ :: _ :: _ :: _ :: _ :: _ :: _ :: _ :: ψ) rfl rfl ?_
                      refine JL_callF' (Asks.cons (holds_of_mem (by repeat (first | with_reducible exact mm0 | refine mmS ?_))) (Asks.cons (holds_of_mem (by repeat (first | with_reducible exact mm0 | refine mmS ?_))) Asks.nil)) (fneg_con (FIn.some ((fes_fqs hl64 j).mono (by decide)))) rfl ca15 ⟨rfl, rfl⟩ ?_
                      exact fun v φo hP => JL_nil (JE_stepC φo rfl hP (fun p hp => mapB_l hp) (fun p hp => mapB_r (ss0 p hp))))), OblS_V (fun vals ex ψ => (by
                      refine JL_normQ ⟨110, [(96, _), (97, _), (98, _), (99, _), (100, _), (101, _), (102, _), (103, _), (104, _), (105, _), (106, _), (107, _)], _⟩ (_ :: _ :: _ :: _ :: _ :: _ :: _ :: _ :: _ :: _ :: _ :: _ :: ψ) rfl rfl ?_
                      refine JL_move rfl ?_
                      exact JL_nil (JE_stepV rfl ss0))), OblS_V (fun vals ex ψ => (by
                      refine JL_normQ ⟨110, [(96, _), (97, _), (98, _), (99, _), (100, _), (101, _), (102, _), (103, _), (104, _), (105, _), (106, _), (107, _)], _⟩ (_ :: _ :: _ :: _ :: _ :: _ :: _ :: _ :: _ :: _ :: _ :: _ :: ψ) rfl rfl ?_
                      refine JL_move rfl ?_
                      exact JL_nil (JE_stepV rfl ss0))), OblS_V (fun vals ex ψ => (by
                      refine JL_normQ ⟨110, [(96, _), (97, _), (98, _), (99, _), (100, _), (101, _), (102, _), (103, _), (104, _), (105, _), (106, _), (107, _)], _⟩ (_ :: _ :: _ :: _ :: _ :: _ :: _ :: _ :: _ :: _ :: _ :: _ :: ψ) rfl rfl ?_
                      refine JL_sub_to rfl rfl (IntWalk.i64_in _ (by omega)) ?_
                      exact JL_nil (JE_stepV rfl ss0))), OblS_V (fun vals ex ψ => (by
                      refine JL_normQ ⟨110, [(96, _), (97, _), (98, _), (99, _), (100, _), (101, _), (102, _), (103, _), (104, _), (105, _), (106, _), (107, _)], _⟩ (_ :: _ :: _ :: _ :: _ :: _ :: _ :: _ :: _ :: _ :: _ :: _ :: ψ) rfl rfl ?_
                      refine JL_move rfl ?_
                      exact JL_nil (JE_stepV rfl ss0))), OblS_V (fun vals ex ψ => (by
                      refine JL_normQ ⟨110, [(96, _), (97, _), (98, _), (99, _), (100, _), (101, _), (102, _), (103, _), (104, _), (105, _), (106, _), (107, _)], _⟩ (_ :: _ :: _ :: _ :: _ :: _ :: _ :: _ :: _ :: _ :: _ :: _ :: ψ) rfl rfl ?_
                      refine JL_sub_to rfl rfl (IntWalk.i64_in _ (by omega)) ?_
                      rw [show ((V.length : Int) - 1 - (j : Int) : Int) = ((V.length - 1 - j : Nat) : Int) from by omega]
                      exact JL_nil (JE_stepV rfl ss0))), OblS_V (fun vals ex ψ => (by
                      refine JL_normQ ⟨110, [(96, _), (97, _), (98, _), (99, _), (100, _), (101, _), (102, _), (103, _), (104, _), (105, _), (106, _), (107, _)], _⟩ (_ :: _ :: _ :: _ :: _ :: _ :: _ :: _ :: _ :: _ :: _ :: _ :: ψ) rfl rfl ?_
                      refine JL_indexAddr (V.length - 1 - j) sl28 rfl rfl rfl (by omega) (by first | exact Reads.view (by repeat (first | with_reducible exact mm0 | refine mmS ?_))) (by rw [fcells_length]; omega) ?_
                      exact JL_nil (JE_stepV rfl ss0))), OblS_V (fun vals ex ψ => (by
                      refine JL_normQ ⟨110, [(96, _), (97, _), (98, _), (99, _), (100, _), (101, _), (102, _), (103, _), (104, _), (105, _), (106, _), (107, _)], _⟩ (_ :: _ :: _ :: _ :: _ :: _ :: _ :: _ :: _ :: _ :: _ :: _ :: ψ) rfl rfl ?_
                      refine JL_loadEA (vs := [_, _, _]) ty36 (Nat.zero_lt_succ _) rfl (by first | exact Reads.view (by repeat (first | with_reducible exact mm0 | refine mmS ?_))) (fcells_getA (by omega)) ?_
                      exact JL_nil (JE_stepV rfl ss0))), trivial⟩ (by kernel_rfl) (fun vals bs => ?_)
                  refine JL_normL [_, _] ⟨110, [(96, _), (97, _), (98, _), (99, _), (100, _), (101, _), (102, _), (103, _), (104, _), (105, _), (106, _), (107, _)], _⟩ [] [_, _, _, _, _, _, _, _, _, _, _, _, _] rfl rfl rfl rfl ?_
                  generalize vals (0 + 1 + 1 + 1 + 1) = x100
                  refine JL_usePost mm0 (fun φo hP => ?_)
                  obtain ⟨ad100, cp100, be100, ce100, rfl, rfl⟩ := hP
                  refine JL_norm _ [] [_, _, _, _, _, _, _, _, _, _, _, _, _, _, _] rfl rfl rfl ?_
                  refine JL_callF' (Asks.cons (holds_of_mem (by repeat (first | with_reducible exact mm0 | refine mmS ?_))) (Asks.cons (holds_of_mem (by repeat (first | with_reducible exact mm0 | refine mmS ?_))) (Asks.cons (holds_of_mem (by repeat (first | with_reducible exact mm0 | refine mmS ?_))) (Asks.cons (holds_of_mem (by repeat (first | with_reducible exact mm0 | refine mmS ?_))) Asks.nil)))) (fcmpq_con (FIn.some ((fes_fqs hl64 j).neg.mono (by decide))) (FIn.some ((fes_fqs hl70 (V.length - 1 - j)).mono (by decide)))) rfl ca14 ⟨rfl, rfl, rfl⟩ ?_
                  rintro _ _ ⟨rfl, rfl⟩
                  refine JL_neq rfl rfl ?_
                  refine JL_split (fun h109 => ?_) (fun h109 => ?_)
                  · exact absurd (cmpQ_zero.2 (by rw [fes_fq hl64, fes_fq hl70, turn_fit hz (by omega)])) h109
                  · refine JL_done_up 110 [] [_, _, _, _, _, _, _, _, _, _, _, _, _, _, _] rfl rfl (by simp only [nrmF]; rfl) rfl rfl ?_
                    refine JC_false rfl ?_
                    refine JC_skip ?_
                    refine JE_block_normal ?_
                    refine JE_then ?_
                    refine JC_region ?_
                    refine JL_move rfl ?_
                    refine JL_add_to rfl rfl (IntWalk.i64_in _ (by omega)) ?_
                    refine JL_assign rfl ?_
                    refine JL_nil_up 110 [] [_, _, _, _, _, _, _, _, _, _, _, _, _, _, _] rfl rfl (by simp only [nrmF]; rfl) rfl rfl ?_
                    refine JE_nextS (j + 1) (by kernel_rfl) ?_ ?_ (by kernel_rfl) ?_
                    · exact (by omega : j + 1 ≤ V.length)
                    · first | omega | (dsimp only; omega)
                    · exact subset_app subset_nil (ssS (ssS (ssS (ssS (ssS (ssS (ssS ss0)))))))
                · refine JL_done_up 110 [] [_, _, _, _, _, _, _, _] rfl rfl (by simp only [nrmF]; rfl) rfl rfl ?_
                  refine JC_false rfl ?_
                  refine JC_exit ?_
                  refine JE_then_exit ?_
                  refine JE_nextS_exit ?_
                  refine JE_block_exit ?_
                  refine JE_then ?_
                  refine JC_seq ?_
                  refine JC_region ?_
                  refine JL_assign rfl ?_
                  refine JL_done_up 110 [] [_, _, _, _, _, _, _, _] rfl rfl (by simp only [nrmF]; rfl) rfl rfl ?_
                  refine JC_ret ?_
                  refine JE_ret (vs := [_]) [] Tryd.results4 ⟨rfl, rfl⟩ ?_ ?_
                  · exact ⟨rfl, rfl⟩
                  · exact all_nil
  · refine JL_guard_yes rfl rfl ?_
    refine JL_not rfl ?_
    rw [Bool.not_false]
    refine JL_pick_f rfl rfl ?_
    refine JL_move rfl ?_
    refine JL_guard_no rfl rfl ?_
    refine JL_guard_no rfl rfl ?_
    refine JL_guard_no rfl rfl ?_
    refine JL_guard_no rfl rfl ?_
    refine JL_pick_t rfl rfl ?_
    refine JL_done_up 110 [] [_, _] rfl rfl (by simp only [nrmF]; rfl) rfl rfl ?_
    refine JC_true rfl ?_
    refine JC_seq ?_
    refine JC_region ?_
    refine JL_callF' Asks.nil (iawake_con) rfl ca9 rfl ?_
    rintro _ _ ⟨rfl, rfl⟩
    refine JL_assign rfl ?_
    refine JL_done_up 110 [] [_, _] rfl rfl (by simp only [nrmF]; rfl) rfl rfl ?_
    refine JC_ret ?_
    refine JE_then_ret ?_
    refine JE_ret (vs := [_]) [] Tryd.results4 ⟨rfl, rfl⟩ ?_ ?_
    · exact ⟨rfl, rfl⟩
    · exact all_nil

end Go.Fw.K
