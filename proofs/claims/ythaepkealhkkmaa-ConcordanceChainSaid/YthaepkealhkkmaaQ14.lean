/- Walks through functions of the given program: each meets its contract. (Printed by a program of this repo.) -/
import Derived.Test.YthaepkealhkkmaaQ13
import Derived.Test.YthaepkealhkkmaaCcG
import Derived.Test.YthaepkealhkkmaaProg
namespace Go.Fw.Q14
open Go Go.RowKit Go.Proofs Go.Nat9 Go.Fw
attribute [local irreducible] JC JL JE
theorem ca30 : callable Try.prog 30 = true := by kernel_rfl
theorem ca33 : callable Try.prog 33 = true := by kernel_rfl
theorem ca47 : callable Try.prog 47 = true := by kernel_rfl
theorem ca48 : callable Try.prog 48 = true := by kernel_rfl
theorem ca49 : callable Try.prog 49 = true := by kernel_rfl
theorem ca50 : callable Try.prog 50 = true := by kernel_rfl
theorem ca51 : callable Try.prog 51 = true := by kernel_rfl
theorem fo41_0 : fOf Try.prog 41 0 = some 0 := by kernel_rfl
theorem fo41_1 : fOf Try.prog 41 1 = some 1 := by kernel_rfl
theorem fo48_0 : fOf Try.prog 48 0 = some 0 := by kernel_rfl
theorem fo48_1 : fOf Try.prog 48 1 = some 1 := by kernel_rfl
theorem mixed : Try.prog.follows .mixedOrders = true := by kernel_rfl
theorem sl28 : slOf Try.prog 28 = some (3, 1, 8, [.int .i64 0]) := by kernel_rfl
theorem sl39 : slOf Try.prog 39 = some (48, 2, 16, [.int .i64 0, .int .i64 0]) := by kernel_rfl
theorem ty28 : tyOf Try.prog 28 = some (false, 1) := by kernel_rfl
theorem ty3 : tyOf Try.prog 3 = some (false, 1) := by kernel_rfl
theorem ty39 : tyOf Try.prog 39 = some (false, 1) := by kernel_rfl
theorem ty41 : tyOf Try.prog 41 = some (true, 2) := by kernel_rfl
theorem ty48 : tyOf Try.prog 48 = some (true, 2) := by kernel_rfl
theorem z48 : zeroOf Try.prog 48 = some [.int .i64 0, .int .i64 0] := by kernel_rfl
end Go.Fw.Q14
namespace Go.Fw.K
open Go Go.RowKit Go.Proofs Go.Nat9 Go.Fw Go.Fw.Q14
attribute [local irreducible] JC JL JE

theorem ordered_con {ad : Option Addr} {c : Nat} {E : List Pr} {most : Int} (hE : E.length ≤ 1000000) :
    ConF Try.prog 47 [.slice ad E.length c, .int .i64 most] [vCells ad (pcells E)]
      (fun v φo => v = .bool (decide (ordM E most)) ∧ φo = []) := by
  refine ConF_of Try.func47 rfl 28 _ rfl rfl ?_
  intro w0
  refine JC_norm ⟨28, [], [_, _, _, _, _, _, _, _, _, _, _, _, _, _, _, _, _, _, _, _, _, _, _, _, _, _, _, _]⟩ [] [_] rfl rfl rfl ?_
  refine JC_seq ?_
  refine JC_region ?_
  refine JL_assign rfl ?_
  refine JL_done_up 28 [] [_] rfl rfl (by simp only [nrmF]; rfl) rfl rfl ?_
  refine JC_seq ?_
  refine JC_seq ?_
  refine JC_region ?_
  refine JL_assign rfl ?_
  refine JL_done_up 28 [] [_] rfl rfl (by simp only [nrmF]; rfl) rfl rfl ?_
  refine JC_block ?_
  refine JC_loopS ((Nat)) (fun (i : Nat) => 1 ≤ i ∧ (i ≤ E.length ∨ i = 1) ∧ ∀ j, j < i → 0 < j → j < E.length → (E.getD (j - 1) dP).1 < (E.getD j dP).1) (fun (i : Nat) => E.length - i) (fun u (i : Nat) => [none, none, none, none, some (u 4), some (.int .i64 (i : Nat)), some (u 6), some (u 7), some (u 8), some (u 9), some (u 10), some (u 11), some (u 12), some (u 13), some (u 14), some (u 15), some (u 16), some (u 17), some (u 18), some (u 19), some (u 20), some (u 21), some (u 22), some (u 23), none, none, none, none]) (fun (i : Nat) => []) (fun (i : Nat) => []) (1) (by kernel_rfl) ?_ (by kernel_rfl) ?_ ?_
  · exact ⟨Nat.le_refl _, .inr rfl, fun j hj h0 => by omega⟩
  · exact subset_nil
  intro u i hC
  obtain ⟨hi1, hi, hj⟩ := hC
  refine JC_norm ⟨28, [], [_, _, _, _, _, _, _, _, _, _, _, _, _, _, _, _, _, _, _, _, _, _, _, _, _, _, _, _]⟩ [] [_] rfl rfl rfl ?_
  refine JC_seq ?_
  refine JC_seq ?_
  refine JC_region ?_
  refine JL_move rfl ?_
  refine JL_move rfl ?_
  refine JL_len sl39 rfl ?_
  refine JL_lss rfl rfl ?_
  refine JL_split (fun h9 => ?_) (fun h9 => ?_)
  · refine JL_done_up 28 [] [_] rfl rfl (by simp only [nrmF]; rfl) rfl rfl ?_
    refine JC_true rfl ?_
    refine JC_skip ?_
    refine JE_then ?_
    refine JC_seq ?_
    refine JC_block ?_
    refine JC_seq ?_
    have hlt : i < E.length := by omega
    refine JC_drawT mixed 11 [spV 12 [] _, spV 13 [] _, spV 14 [0, 1] _, spV 15 [2] _, spV 16 [3] _, spV 17 [] _, spV 18 [] _, spV 19 [6] _, spV 20 [5, 7] _, spV 21 [8] _, spV 22 [9] _] ⟨OblS_V (fun vals ex ψ => (by
        refine JL_normQ ⟨28, [(12, _), (13, _), (14, _), (15, _), (16, _), (17, _), (18, _), (19, _), (20, _), (21, _), (22, _)], _⟩ (_ :: ψ) rfl rfl ?_
        refine JL_move rfl ?_
        exact JL_nil (JE_stepV rfl ss0))), OblS_V (fun vals ex ψ => (by
        refine JL_normQ ⟨28, [(12, _), (13, _), (14, _), (15, _), (16, _), (17, _), (18, _), (19, _), (20, _), (21, _), (22, _)], _⟩ (_ :: ψ) rfl rfl ?_
        refine JL_move rfl ?_
        exact JL_nil (JE_stepV rfl ss0))), OblS_V (fun vals ex ψ => (by
        refine JL_normQ ⟨28, [(12, _), (13, _), (14, _), (15, _), (16, _), (17, _), (18, _), (19, _), (20, _), (21, _), (22, _)], _⟩ (_ :: ψ) rfl rfl ?_
        refine JL_indexAddr i sl39 rfl rfl rfl (by omega) (by first | exact Reads.view (by repeat (first | with_reducible exact mm0 | refine mmS ?_))) (by rw [pcells_length]; omega) ?_
        exact JL_nil (JE_stepV rfl ss0))), OblS_V (fun vals ex ψ => (by
        refine JL_normQ ⟨28, [(12, _), (13, _), (14, _), (15, _), (16, _), (17, _), (18, _), (19, _), (20, _), (21, _), (22, _)], _⟩ (_ :: ψ) rfl rfl ?_
        refine JL_fieldAddrE fo48_0 rfl (by first | exact Reads.view (by repeat (first | with_reducible exact mm0 | refine mmS ?_))) (by rw [pcells_length]; omega) ?_
        exact JL_nil (JE_stepV rfl ss0))), OblS_V (fun vals ex ψ => (by
        refine JL_normQ ⟨28, [(12, _), (13, _), (14, _), (15, _), (16, _), (17, _), (18, _), (19, _), (20, _), (21, _), (22, _)], _⟩ (_ :: ψ) rfl rfl ?_
        refine JL_loadE ty3 rfl (by first | exact Reads.view (by repeat (first | with_reducible exact mm0 | refine mmS ?_))) (pcells_one (l := E) (by omega)).1 ?_
        exact JL_nil (JE_stepV rfl ss0))), OblS_V (fun vals ex ψ => (by
        refine JL_normQ ⟨28, [(12, _), (13, _), (14, _), (15, _), (16, _), (17, _), (18, _), (19, _), (20, _), (21, _), (22, _)], _⟩ (_ :: ψ) rfl rfl ?_
        refine JL_move rfl ?_
        exact JL_nil (JE_stepV rfl ss0))), OblS_V (fun vals ex ψ => (by
        refine JL_normQ ⟨28, [(12, _), (13, _), (14, _), (15, _), (16, _), (17, _), (18, _), (19, _), (20, _), (21, _), (22, _)], _⟩ (_ :: ψ) rfl rfl ?_
        refine JL_move rfl ?_
        exact JL_nil (JE_stepV rfl ss0))), OblS_V (fun vals ex ψ => (by
        refine JL_normQ ⟨28, [(12, _), (13, _), (14, _), (15, _), (16, _), (17, _), (18, _), (19, _), (20, _), (21, _), (22, _)], _⟩ (_ :: ψ) rfl rfl ?_
        refine JL_sub_to rfl rfl (IntWalk.i64_in _ (by omega)) ?_
        exact JL_nil (JE_stepV rfl ss0))), OblS_V (fun vals ex ψ => (by
        refine JL_normQ ⟨28, [(12, _), (13, _), (14, _), (15, _), (16, _), (17, _), (18, _), (19, _), (20, _), (21, _), (22, _)], _⟩ (_ :: ψ) rfl rfl ?_
        refine JL_indexAddr (i - 1) sl39 rfl rfl (by omega) (by omega) (by first | exact Reads.view (by repeat (first | with_reducible exact mm0 | refine mmS ?_))) (by rw [pcells_length]; omega) ?_
        exact JL_nil (JE_stepV rfl ss0))), OblS_V (fun vals ex ψ => (by
        refine JL_normQ ⟨28, [(12, _), (13, _), (14, _), (15, _), (16, _), (17, _), (18, _), (19, _), (20, _), (21, _), (22, _)], _⟩ (_ :: ψ) rfl rfl ?_
        refine JL_fieldAddrE fo48_0 rfl (by first | exact Reads.view (by repeat (first | with_reducible exact mm0 | refine mmS ?_))) (by rw [pcells_length]; omega) ?_
        exact JL_nil (JE_stepV rfl ss0))), OblS_V (fun vals ex ψ => (by
        refine JL_normQ ⟨28, [(12, _), (13, _), (14, _), (15, _), (16, _), (17, _), (18, _), (19, _), (20, _), (21, _), (22, _)], _⟩ (_ :: ψ) rfl rfl ?_
        refine JL_loadE ty3 rfl (by first | exact Reads.view (by repeat (first | with_reducible exact mm0 | refine mmS ?_))) (pcells_one (l := E) (by omega)).1 ?_
        exact JL_nil (JE_stepV rfl ss0))), trivial⟩ (by kernel_rfl) (fun vals bs => ?_)
    refine JL_normL [_] ⟨28, [(12, _), (13, _), (14, _), (15, _), (16, _), (17, _), (18, _), (19, _), (20, _), (21, _), (22, _)], _⟩ [] [_] rfl rfl rfl rfl ?_
    refine JL_leq rfl rfl ?_
    refine JL_split (fun h23 => ?_) (fun h23 => ?_)
    · refine JL_done_up 28 [] [_] rfl rfl (by simp only [nrmF]; rfl) rfl rfl ?_
      refine JC_true rfl ?_
      refine JC_seq ?_
      refine JC_region ?_
      refine JL_assign rfl ?_
      refine JL_done_up 28 [] [_] rfl rfl (by simp only [nrmF]; rfl) rfl rfl ?_
      refine JC_ret ?_
      refine JE_block_ret ?_
      refine JE_then_ret ?_
      refine JE_nextS_ret ?_
      refine JE_block_ret ?_
      refine JE_then_ret ?_
      refine JE_ret (vs := [_]) [] Try.results47 ⟨rfl, rfl⟩ ?_ ?_
      · rw [ord_no (i := i) (by omega) (by omega) (by omega)]; exact ⟨rfl, rfl⟩
      · exact all_nil
    · refine JL_done_up 28 [] [_] rfl rfl (by simp only [nrmF]; rfl) rfl rfl ?_
      refine JC_false rfl ?_
      refine JC_skip ?_
      refine JE_block_normal ?_
      refine JE_then ?_
      refine JC_region ?_
      refine JL_move rfl ?_
      refine JL_add_to rfl rfl (IntWalk.i64_in _ (by omega)) ?_
      refine JL_assign rfl ?_
      refine JL_nil_up 28 [] [_] rfl rfl (by simp only [nrmF]; rfl) rfl rfl ?_
      refine JE_nextS (i + 1) (by kernel_rfl) ?_ ?_ (by kernel_rfl) ?_
      · exact ⟨by omega, by omega, fun j hj2 h0 hjl => by
        by_cases h : j = i
        · subst h; omega
        · exact hj j (by omega) h0 hjl⟩
      · first | omega | (dsimp only; omega)
      · exact subset_app subset_nil ss0
  · refine JL_done_up 28 [] [_] rfl rfl (by simp only [nrmF]; rfl) rfl rfl ?_
    refine JC_false rfl ?_
    refine JC_exit ?_
    refine JE_then_exit ?_
    refine JE_nextS_exit ?_
    refine JE_block_exit ?_
    refine JE_then ?_
    refine JC_seq ?_
    refine JC_region ?_
    refine JL_move rfl ?_
    refine JL_len sl39 rfl ?_
    refine JL_move rfl ?_
    refine JL_leq rfl rfl ?_
    refine JL_assign rfl ?_
    refine JL_done_up 28 [] [_] rfl rfl (by simp only [nrmF]; rfl) rfl rfl ?_
    refine JC_ret ?_
    refine JE_ret (vs := [_]) [] Try.results47 ⟨rfl, rfl⟩ ?_ ?_
    · rw [show decide (((E.length : Nat) : Int) ≤ most) = decide (ordM E most) from decide_eq_decide.2 ⟨fun h => ⟨fun j hjl h0 => hj j (by omega) h0 hjl, h⟩, fun h => h.2⟩]; exact ⟨rfl, rfl⟩
    · exact all_nil

set_option maxHeartbeats 1000000 in
theorem bup_con {ad : Option Addr} {c : Nat} {L : List Int} {lo hi : Int} (hln : L.length ≤ 1000000) :
    ConF Try.prog 48 [.slice ad L.length c, .int .i64 lo, .int .i64 hi] [vCells ad (i64s L)]
      (fun v φo => v = .bool (decide (upC L lo hi)) ∧ φo = []) := by
  refine ConF_of Try.func48 rfl 44 _ rfl rfl ?_
  intro w0
  refine JC_norm ⟨44, [], [_, _, _, _, _, _, _, _, _, _, _, _, _, _, _, _, _, _, _, _, _, _, _, _, _, _, _, _, _, _, _, _, _, _, _, _, _, _, _, _, _, _, _, _]⟩ [] [_] rfl rfl rfl ?_
  refine JC_seq ?_
  refine JC_region ?_
  refine JL_assign rfl ?_
  refine JL_done_up 44 [] [_] rfl rfl (by simp only [nrmF]; rfl) rfl rfl ?_
  refine JC_seq ?_
  refine JC_seq ?_
  refine JC_region ?_
  refine JL_assign rfl ?_
  refine JL_done_up 44 [] [_] rfl rfl (by simp only [nrmF]; rfl) rfl rfl ?_
  refine JC_block ?_
  refine JC_loopS ((Nat)) (fun (i : Nat) => i ≤ L.length ∧ ∀ j, j < i → upAt L lo hi j) (fun (i : Nat) => L.length - i) (fun u (i : Nat) => [none, none, none, none, none, none, some (u 6), some (.int .i64 (i : Nat)), some (u 8), some (u 9), some (u 10), some (u 11), some (u 12), some (u 13), some (u 14), some (u 15), some (u 16), some (u 17), some (u 18), some (u 19), some (u 20), some (u 21), some (u 22), some (u 23), some (u 24), some (u 25), some (u 26), some (u 27), some (u 28), some (u 29), some (u 30), some (u 31), some (u 32), some (u 33), some (u 34), some (u 35), some (u 36), some (u 37), some (u 38), some (u 39), some (u 40), some (u 41), some (u 42), some (u 43)]) (fun (i : Nat) => []) (fun (i : Nat) => []) (0) (by kernel_rfl) ?_ (by kernel_rfl) ?_ ?_
  · exact ⟨Nat.zero_le _, fun j hj => absurd hj (Nat.not_lt_zero _)⟩
  · exact subset_nil
  intro u i hC
  obtain ⟨hk, hj⟩ := hC
  refine JC_norm ⟨44, [], [_, _, _, _, _, _, _, _, _, _, _, _, _, _, _, _, _, _, _, _, _, _, _, _, _, _, _, _, _, _, _, _, _, _, _, _, _, _, _, _, _, _, _, _]⟩ [] [_] rfl rfl rfl ?_
  refine JC_seq ?_
  refine JC_seq ?_
  refine JC_region ?_
  refine JL_move rfl ?_
  refine JL_move rfl ?_
  refine JL_len sl28 rfl ?_
  refine JL_lss rfl rfl ?_
  refine JL_split (fun h11 => ?_) (fun h11 => ?_)
  · refine JL_done_up 44 [] [_] rfl rfl (by simp only [nrmF]; rfl) rfl rfl ?_
    refine JC_true rfl ?_
    refine JC_skip ?_
    refine JE_then ?_
    refine JC_seq ?_
    refine JC_block ?_
    refine JC_seq ?_
    rcases up4 L lo hi i with hA | hA | hA | hA | hA
    · refine JC_drawT mixed 27 [spV 14 [] _, spV 15 [] _, spV 16 [0, 1] _, spV 17 [2] _, spV 18 [] _, spV 19 [3, 4] _, spV 20 [5] _, spV 21 [6] _, spV 22 [6] _, spV 23 [6, 7, 8] _, spV 24 [6, 9] _, spV 25 [6] _, spV 26 [6, 10, 11] _, spV 27 [6, 12] _, spV 28 [13] _, spV 29 [14] _, spV 30 [14, 15] _, spV 31 [14, 16] _, spV 32 [17] _, spV 33 [17] _, spV 34 [17, 18, 19] _, spV 35 [17, 20] _, spV 36 [17] _, spV 37 [17] _, spV 38 [17, 23] _, spV 39 [17, 22, 24] _, spV 40 [17, 25] _] ⟨OblS_V (fun vals ex ψ => (by
          refine JL_normQ ⟨44, [(14, _), (15, _), (16, _), (17, _), (18, _), (19, _), (20, _), (21, _), (22, _), (23, _), (24, _), (25, _), (26, _), (27, _), (28, _), (29, _), (30, _), (31, _), (32, _), (33, _), (34, _), (35, _), (36, _), (37, _), (38, _), (39, _), (40, _)], _⟩ (_ :: ψ) rfl rfl ?_
          refine JL_move rfl ?_
          exact JL_nil (JE_stepV rfl ss0))), OblS_V (fun vals ex ψ => (by
          refine JL_normQ ⟨44, [(14, _), (15, _), (16, _), (17, _), (18, _), (19, _), (20, _), (21, _), (22, _), (23, _), (24, _), (25, _), (26, _), (27, _), (28, _), (29, _), (30, _), (31, _), (32, _), (33, _), (34, _), (35, _), (36, _), (37, _), (38, _), (39, _), (40, _)], _⟩ (_ :: ψ) rfl rfl ?_
          refine JL_move rfl ?_
          exact JL_nil (JE_stepV rfl ss0))), OblS_V (fun vals ex ψ => (by
          refine JL_normQ ⟨44, [(14, _), (15, _), (16, _), (17, _), (18, _), (19, _), (20, _), (21, _), (22, _), (23, _), (24, _), (25, _), (26, _), (27, _), (28, _), (29, _), (30, _), (31, _), (32, _), (33, _), (34, _), (35, _), (36, _), (37, _), (38, _), (39, _), (40, _)], _⟩ (_ :: ψ) rfl rfl ?_
          refine JL_idx i sl28 rfl rfl rfl (by omega) (by first | exact Reads.view (by repeat (first | with_reducible exact mm0 | refine mmS ?_))) (by first | (rw [u32s_length]; omega) | (rw [i64s_length]; omega)) ?_
          exact JL_nil (JE_stepV rfl ss0))), OblS_V (fun vals ex ψ => (by
          refine JL_normQ ⟨44, [(14, _), (15, _), (16, _), (17, _), (18, _), (19, _), (20, _), (21, _), (22, _), (23, _), (24, _), (25, _), (26, _), (27, _), (28, _), (29, _), (30, _), (31, _), (32, _), (33, _), (34, _), (35, _), (36, _), (37, _), (38, _), (39, _), (40, _)], _⟩ (_ :: ψ) rfl rfl ?_
          refine JL_loadE ty3 rfl (by first | exact Reads.view (by repeat (first | with_reducible exact mm0 | refine mmS ?_))) (i64s_get (by omega)) ?_
          exact JL_nil (JE_stepV rfl ss0))), OblS_V (fun vals ex ψ => (by
          refine JL_normQ ⟨44, [(14, _), (15, _), (16, _), (17, _), (18, _), (19, _), (20, _), (21, _), (22, _), (23, _), (24, _), (25, _), (26, _), (27, _), (28, _), (29, _), (30, _), (31, _), (32, _), (33, _), (34, _), (35, _), (36, _), (37, _), (38, _), (39, _), (40, _)], _⟩ (_ :: ψ) rfl rfl ?_
          refine JL_move rfl ?_
          exact JL_nil (JE_stepV rfl ss0))), OblS_V (fun vals ex ψ => (by
          refine JL_normQ ⟨44, [(14, _), (15, _), (16, _), (17, _), (18, _), (19, _), (20, _), (21, _), (22, _), (23, _), (24, _), (25, _), (26, _), (27, _), (28, _), (29, _), (30, _), (31, _), (32, _), (33, _), (34, _), (35, _), (36, _), (37, _), (38, _), (39, _), (40, _)], _⟩ (_ :: ψ) rfl rfl ?_
          refine JL_lss rfl rfl ?_
          rw [decide_eq_true (p := L.getD i 0 < lo) (by omega)]
          exact JL_nil (JE_stepV rfl ss0))), OblS_V (fun vals ex ψ => (by
          refine JL_normQ ⟨44, [(14, _), (15, _), (16, _), (17, _), (18, _), (19, _), (20, _), (21, _), (22, _), (23, _), (24, _), (25, _), (26, _), (27, _), (28, _), (29, _), (30, _), (31, _), (32, _), (33, _), (34, _), (35, _), (36, _), (37, _), (38, _), (39, _), (40, _)], _⟩ (_ :: ψ) rfl rfl ?_
          refine JL_move rfl ?_
          exact JL_nil (JE_stepV rfl ss0))), OblS_V (fun vals ex ψ => (by
          refine JL_normQ ⟨44, [(14, _), (15, _), (16, _), (17, _), (18, _), (19, _), (20, _), (21, _), (22, _), (23, _), (24, _), (25, _), (26, _), (27, _), (28, _), (29, _), (30, _), (31, _), (32, _), (33, _), (34, _), (35, _), (36, _), (37, _), (38, _), (39, _), (40, _)], _⟩ (_ :: ψ) rfl rfl ?_
          refine JL_guard_no rfl rfl ?_
          exact JL_nil (JE_stepV rfl ss0))), OblS_V (fun vals ex ψ => (by
          refine JL_normQ ⟨44, [(14, _), (15, _), (16, _), (17, _), (18, _), (19, _), (20, _), (21, _), (22, _), (23, _), (24, _), (25, _), (26, _), (27, _), (28, _), (29, _), (30, _), (31, _), (32, _), (33, _), (34, _), (35, _), (36, _), (37, _), (38, _), (39, _), (40, _)], _⟩ (_ :: ψ) rfl rfl ?_
          refine JL_guard_no rfl rfl ?_
          exact JL_nil (JE_stepV rfl ss0))), OblS_V (fun vals ex ψ => (by
          refine JL_normQ ⟨44, [(14, _), (15, _), (16, _), (17, _), (18, _), (19, _), (20, _), (21, _), (22, _), (23, _), (24, _), (25, _), (26, _), (27, _), (28, _), (29, _), (30, _), (31, _), (32, _), (33, _), (34, _), (35, _), (36, _), (37, _), (38, _), (39, _), (40, _)], _⟩ (_ :: ψ) rfl rfl ?_
          refine JL_guard_no rfl rfl ?_
          exact JL_nil (JE_stepV rfl ss0))), OblS_V (fun vals ex ψ => (by
          refine JL_normQ ⟨44, [(14, _), (15, _), (16, _), (17, _), (18, _), (19, _), (20, _), (21, _), (22, _), (23, _), (24, _), (25, _), (26, _), (27, _), (28, _), (29, _), (30, _), (31, _), (32, _), (33, _), (34, _), (35, _), (36, _), (37, _), (38, _), (39, _), (40, _)], _⟩ (_ :: ψ) rfl rfl ?_
          refine JL_guard_no rfl rfl ?_
          exact JL_nil (JE_stepV rfl ss0))), OblS_V (fun vals ex ψ => (by
          refine JL_normQ ⟨44, [(14, _), (15, _), (16, _), (17, _), (18, _), (19, _), (20, _), (21, _), (22, _), (23, _), (24, _), (25, _), (26, _), (27, _), (28, _), (29, _), (30, _), (31, _), (32, _), (33, _), (34, _), (35, _), (36, _), (37, _), (38, _), (39, _), (40, _)], _⟩ (_ :: ψ) rfl rfl ?_
          refine JL_guard_no rfl rfl ?_
          exact JL_nil (JE_stepV rfl ss0))), OblS_V (fun vals ex ψ => (by
          refine JL_normQ ⟨44, [(14, _), (15, _), (16, _), (17, _), (18, _), (19, _), (20, _), (21, _), (22, _), (23, _), (24, _), (25, _), (26, _), (27, _), (28, _), (29, _), (30, _), (31, _), (32, _), (33, _), (34, _), (35, _), (36, _), (37, _), (38, _), (39, _), (40, _)], _⟩ (_ :: ψ) rfl rfl ?_
          refine JL_guard_no rfl rfl ?_
          exact JL_nil (JE_stepV rfl ss0))), OblS_V (fun vals ex ψ => (by
          refine JL_normQ ⟨44, [(14, _), (15, _), (16, _), (17, _), (18, _), (19, _), (20, _), (21, _), (22, _), (23, _), (24, _), (25, _), (26, _), (27, _), (28, _), (29, _), (30, _), (31, _), (32, _), (33, _), (34, _), (35, _), (36, _), (37, _), (38, _), (39, _), (40, _)], _⟩ (_ :: ψ) rfl rfl ?_
          refine JL_pick_t rfl rfl ?_
          exact JL_nil (JE_stepV rfl ss0))), OblS_V (fun vals ex ψ => (by
          refine JL_normQ ⟨44, [(14, _), (15, _), (16, _), (17, _), (18, _), (19, _), (20, _), (21, _), (22, _), (23, _), (24, _), (25, _), (26, _), (27, _), (28, _), (29, _), (30, _), (31, _), (32, _), (33, _), (34, _), (35, _), (36, _), (37, _), (38, _), (39, _), (40, _)], _⟩ (_ :: ψ) rfl rfl ?_
          refine JL_move rfl ?_
          exact JL_nil (JE_stepV rfl ss0))), OblS_V (fun vals ex ψ => (by
          refine JL_normQ ⟨44, [(14, _), (15, _), (16, _), (17, _), (18, _), (19, _), (20, _), (21, _), (22, _), (23, _), (24, _), (25, _), (26, _), (27, _), (28, _), (29, _), (30, _), (31, _), (32, _), (33, _), (34, _), (35, _), (36, _), (37, _), (38, _), (39, _), (40, _)], _⟩ (_ :: ψ) rfl rfl ?_
          refine JL_guard_no rfl rfl ?_
          exact JL_nil (JE_stepV rfl ss0))), OblS_V (fun vals ex ψ => (by
          refine JL_normQ ⟨44, [(14, _), (15, _), (16, _), (17, _), (18, _), (19, _), (20, _), (21, _), (22, _), (23, _), (24, _), (25, _), (26, _), (27, _), (28, _), (29, _), (30, _), (31, _), (32, _), (33, _), (34, _), (35, _), (36, _), (37, _), (38, _), (39, _), (40, _)], _⟩ (_ :: ψ) rfl rfl ?_
          refine JL_guard_no rfl rfl ?_
          exact JL_nil (JE_stepV rfl ss0))), OblS_V (fun vals ex ψ => (by
          refine JL_normQ ⟨44, [(14, _), (15, _), (16, _), (17, _), (18, _), (19, _), (20, _), (21, _), (22, _), (23, _), (24, _), (25, _), (26, _), (27, _), (28, _), (29, _), (30, _), (31, _), (32, _), (33, _), (34, _), (35, _), (36, _), (37, _), (38, _), (39, _), (40, _)], _⟩ (_ :: ψ) rfl rfl ?_
          refine JL_guard_no rfl rfl ?_
          exact JL_nil (JE_stepV rfl ss0))), OblS_V (fun vals ex ψ => (by
          refine JL_normQ ⟨44, [(14, _), (15, _), (16, _), (17, _), (18, _), (19, _), (20, _), (21, _), (22, _), (23, _), (24, _), (25, _), (26, _), (27, _), (28, _), (29, _), (30, _), (31, _), (32, _), (33, _), (34, _), (35, _), (36, _), (37, _), (38, _), (39, _), (40, _)], _⟩ (_ :: ψ) rfl rfl ?_
          refine JL_guard_un rfl rfl ?_
          exact JL_nil (JE_stepV rfl ss0))), OblS_V (fun vals ex ψ => (by
          refine JL_normQ ⟨44, [(14, _), (15, _), (16, _), (17, _), (18, _), (19, _), (20, _), (21, _), (22, _), (23, _), (24, _), (25, _), (26, _), (27, _), (28, _), (29, _), (30, _), (31, _), (32, _), (33, _), (34, _), (35, _), (36, _), (37, _), (38, _), (39, _), (40, _)], _⟩ (_ :: ψ) rfl rfl ?_
          refine JL_guard_un rfl rfl ?_
          exact JL_nil (JE_stepV rfl ss0))), OblS_V (fun vals ex ψ => (by
          refine JL_normQ ⟨44, [(14, _), (15, _), (16, _), (17, _), (18, _), (19, _), (20, _), (21, _), (22, _), (23, _), (24, _), (25, _), (26, _), (27, _), (28, _), (29, _), (30, _), (31, _), (32, _), (33, _), (34, _), (35, _), (36, _), (37, _), (38, _), (39, _), (40, _)], _⟩ (_ :: ψ) rfl rfl ?_
          refine JL_guard_un rfl rfl ?_
          exact JL_nil (JE_stepV rfl ss0))), OblS_V (fun vals ex ψ => (by
          refine JL_normQ ⟨44, [(14, _), (15, _), (16, _), (17, _), (18, _), (19, _), (20, _), (21, _), (22, _), (23, _), (24, _), (25, _), (26, _), (27, _), (28, _), (29, _), (30, _), (31, _), (32, _), (33, _), (34, _), (35, _), (36, _), (37, _), (38, _), (39, _), (40, _)], _⟩ (_ :: ψ) rfl rfl ?_
          refine JL_guard_un rfl rfl ?_
          exact JL_nil (JE_stepV rfl ss0))), OblS_V (fun vals ex ψ => (by
          refine JL_normQ ⟨44, [(14, _), (15, _), (16, _), (17, _), (18, _), (19, _), (20, _), (21, _), (22, _), (23, _), (24, _), (25, _), (26, _), (27, _), (28, _), (29, _), (30, _), (31, _), (32, _), (33, _), (34, _), (35, _), (36, _), (37, _), (38, _), (39, _), (40, _)], _⟩ (_ :: ψ) rfl rfl ?_
          refine JL_guard_un rfl rfl ?_
          exact JL_nil (JE_stepV rfl ss0))), OblS_V (fun vals ex ψ => (by
          refine JL_normQ ⟨44, [(14, _), (15, _), (16, _), (17, _), (18, _), (19, _), (20, _), (21, _), (22, _), (23, _), (24, _), (25, _), (26, _), (27, _), (28, _), (29, _), (30, _), (31, _), (32, _), (33, _), (34, _), (35, _), (36, _), (37, _), (38, _), (39, _), (40, _)], _⟩ (_ :: ψ) rfl rfl ?_
          refine JL_guard_un rfl rfl ?_
          exact JL_nil (JE_stepV rfl ss0))), OblS_V (fun vals ex ψ => (by
          refine JL_normQ ⟨44, [(14, _), (15, _), (16, _), (17, _), (18, _), (19, _), (20, _), (21, _), (22, _), (23, _), (24, _), (25, _), (26, _), (27, _), (28, _), (29, _), (30, _), (31, _), (32, _), (33, _), (34, _), (35, _), (36, _), (37, _), (38, _), (39, _), (40, _)], _⟩ (_ :: ψ) rfl rfl ?_
          refine JL_guard_un rfl rfl ?_
          exact JL_nil (JE_stepV rfl ss0))), OblS_V (fun vals ex ψ => (by
          refine JL_normQ ⟨44, [(14, _), (15, _), (16, _), (17, _), (18, _), (19, _), (20, _), (21, _), (22, _), (23, _), (24, _), (25, _), (26, _), (27, _), (28, _), (29, _), (30, _), (31, _), (32, _), (33, _), (34, _), (35, _), (36, _), (37, _), (38, _), (39, _), (40, _)], _⟩ (_ :: ψ) rfl rfl ?_
          refine JL_guard_un rfl rfl ?_
          exact JL_nil (JE_stepV rfl ss0))), OblS_V (fun vals ex ψ => (by
          refine JL_normQ ⟨44, [(14, _), (15, _), (16, _), (17, _), (18, _), (19, _), (20, _), (21, _), (22, _), (23, _), (24, _), (25, _), (26, _), (27, _), (28, _), (29, _), (30, _), (31, _), (32, _), (33, _), (34, _), (35, _), (36, _), (37, _), (38, _), (39, _), (40, _)], _⟩ (_ :: ψ) rfl rfl ?_
          refine JL_guard_un rfl rfl ?_
          exact JL_nil (JE_stepV rfl ss0))), trivial⟩ (by kernel_rfl) (fun vals bs => ?_)
      refine JL_normL [_, _, _] ⟨44, [(14, _), (15, _), (16, _), (17, _), (18, _), (19, _), (20, _), (21, _), (22, _), (23, _), (24, _), (25, _), (26, _), (27, _), (28, _), (29, _), (30, _), (31, _), (32, _), (33, _), (34, _), (35, _), (36, _), (37, _), (38, _), (39, _), (40, _)], _⟩ [] [_] rfl rfl rfl rfl ?_
      refine JL_guard_un rfl rfl ?_
      refine JL_guard_no rfl rfl ?_
      refine JL_pick_t rfl rfl ?_
      refine JL_done_up 44 [] [_] rfl rfl (by simp only [nrmF]; rfl) rfl rfl ?_
      refine JC_true rfl ?_
      refine JC_seq ?_
      refine JC_region ?_
      refine JL_assign rfl ?_
      refine JL_done_up 44 [] [_] rfl rfl (by simp only [nrmF]; rfl) rfl rfl ?_
      refine JC_ret ?_
      refine JE_block_ret ?_
      refine JE_then_ret ?_
      refine JE_nextS_ret ?_
      refine JE_block_ret ?_
      refine JE_then_ret ?_
      refine JE_ret (vs := [_]) [] Try.results48 ⟨rfl, rfl⟩ ?_ ?_
      · rw [upC_no (i := i) (by omega) (fun h => by have := h.1; have := h.2; omega)]; exact ⟨rfl, rfl⟩
      · exact all_nil
    · refine JC_drawT mixed 27 [spV 14 [] _, spV 15 [] _, spV 16 [0, 1] _, spV 17 [2] _, spV 18 [] _, spV 19 [3, 4] _, spV 20 [5] _, spV 21 [6] _, spV 22 [6] _, spV 23 [6, 7, 8] _, spV 24 [6, 9] _, spV 25 [6] _, spV 26 [6, 10, 11] _, spV 27 [6, 12] _, spV 28 [13] _, spV 29 [14] _, spV 30 [14, 15] _, spV 31 [14, 16] _, spV 32 [17] _, spV 33 [17] _, spV 34 [17, 18, 19] _, spV 35 [17, 20] _, spV 36 [17] _, spV 37 [17] _, spV 38 [17, 23] _, spV 39 [17, 22, 24] _, spV 40 [17, 25] _] ⟨OblS_V (fun vals ex ψ => (by
          refine JL_normQ ⟨44, [(14, _), (15, _), (16, _), (17, _), (18, _), (19, _), (20, _), (21, _), (22, _), (23, _), (24, _), (25, _), (26, _), (27, _), (28, _), (29, _), (30, _), (31, _), (32, _), (33, _), (34, _), (35, _), (36, _), (37, _), (38, _), (39, _), (40, _)], _⟩ (_ :: ψ) rfl rfl ?_
          refine JL_move rfl ?_
          exact JL_nil (JE_stepV rfl ss0))), OblS_V (fun vals ex ψ => (by
          refine JL_normQ ⟨44, [(14, _), (15, _), (16, _), (17, _), (18, _), (19, _), (20, _), (21, _), (22, _), (23, _), (24, _), (25, _), (26, _), (27, _), (28, _), (29, _), (30, _), (31, _), (32, _), (33, _), (34, _), (35, _), (36, _), (37, _), (38, _), (39, _), (40, _)], _⟩ (_ :: ψ) rfl rfl ?_
          refine JL_move rfl ?_
          exact JL_nil (JE_stepV rfl ss0))), OblS_V (fun vals ex ψ => (by
          refine JL_normQ ⟨44, [(14, _), (15, _), (16, _), (17, _), (18, _), (19, _), (20, _), (21, _), (22, _), (23, _), (24, _), (25, _), (26, _), (27, _), (28, _), (29, _), (30, _), (31, _), (32, _), (33, _), (34, _), (35, _), (36, _), (37, _), (38, _), (39, _), (40, _)], _⟩ (_ :: ψ) rfl rfl ?_
          refine JL_idx i sl28 rfl rfl rfl (by omega) (by first | exact Reads.view (by repeat (first | with_reducible exact mm0 | refine mmS ?_))) (by first | (rw [u32s_length]; omega) | (rw [i64s_length]; omega)) ?_
          exact JL_nil (JE_stepV rfl ss0))), OblS_V (fun vals ex ψ => (by
          refine JL_normQ ⟨44, [(14, _), (15, _), (16, _), (17, _), (18, _), (19, _), (20, _), (21, _), (22, _), (23, _), (24, _), (25, _), (26, _), (27, _), (28, _), (29, _), (30, _), (31, _), (32, _), (33, _), (34, _), (35, _), (36, _), (37, _), (38, _), (39, _), (40, _)], _⟩ (_ :: ψ) rfl rfl ?_
          refine JL_loadE ty3 rfl (by first | exact Reads.view (by repeat (first | with_reducible exact mm0 | refine mmS ?_))) (i64s_get (by omega)) ?_
          exact JL_nil (JE_stepV rfl ss0))), OblS_V (fun vals ex ψ => (by
          refine JL_normQ ⟨44, [(14, _), (15, _), (16, _), (17, _), (18, _), (19, _), (20, _), (21, _), (22, _), (23, _), (24, _), (25, _), (26, _), (27, _), (28, _), (29, _), (30, _), (31, _), (32, _), (33, _), (34, _), (35, _), (36, _), (37, _), (38, _), (39, _), (40, _)], _⟩ (_ :: ψ) rfl rfl ?_
          refine JL_move rfl ?_
          exact JL_nil (JE_stepV rfl ss0))), OblS_V (fun vals ex ψ => (by
          refine JL_normQ ⟨44, [(14, _), (15, _), (16, _), (17, _), (18, _), (19, _), (20, _), (21, _), (22, _), (23, _), (24, _), (25, _), (26, _), (27, _), (28, _), (29, _), (30, _), (31, _), (32, _), (33, _), (34, _), (35, _), (36, _), (37, _), (38, _), (39, _), (40, _)], _⟩ (_ :: ψ) rfl rfl ?_
          refine JL_lss rfl rfl ?_
          rw [decide_eq_false (p := L.getD i 0 < lo) (by omega)]
          exact JL_nil (JE_stepV rfl ss0))), OblS_V (fun vals ex ψ => (by
          refine JL_normQ ⟨44, [(14, _), (15, _), (16, _), (17, _), (18, _), (19, _), (20, _), (21, _), (22, _), (23, _), (24, _), (25, _), (26, _), (27, _), (28, _), (29, _), (30, _), (31, _), (32, _), (33, _), (34, _), (35, _), (36, _), (37, _), (38, _), (39, _), (40, _)], _⟩ (_ :: ψ) rfl rfl ?_
          refine JL_move rfl ?_
          exact JL_nil (JE_stepV rfl ss0))), OblS_V (fun vals ex ψ => (by
          refine JL_normQ ⟨44, [(14, _), (15, _), (16, _), (17, _), (18, _), (19, _), (20, _), (21, _), (22, _), (23, _), (24, _), (25, _), (26, _), (27, _), (28, _), (29, _), (30, _), (31, _), (32, _), (33, _), (34, _), (35, _), (36, _), (37, _), (38, _), (39, _), (40, _)], _⟩ (_ :: ψ) rfl rfl ?_
          refine JL_guard_yes rfl rfl ?_
          refine JL_move rfl ?_
          exact JL_nil (JE_stepV rfl ss0))), OblS_V (fun vals ex ψ => (by
          refine JL_normQ ⟨44, [(14, _), (15, _), (16, _), (17, _), (18, _), (19, _), (20, _), (21, _), (22, _), (23, _), (24, _), (25, _), (26, _), (27, _), (28, _), (29, _), (30, _), (31, _), (32, _), (33, _), (34, _), (35, _), (36, _), (37, _), (38, _), (39, _), (40, _)], _⟩ (_ :: ψ) rfl rfl ?_
          refine JL_guard_yes rfl rfl ?_
          refine JL_move rfl ?_
          exact JL_nil (JE_stepV rfl ss0))), OblS_V (fun vals ex ψ => (by
          refine JL_normQ ⟨44, [(14, _), (15, _), (16, _), (17, _), (18, _), (19, _), (20, _), (21, _), (22, _), (23, _), (24, _), (25, _), (26, _), (27, _), (28, _), (29, _), (30, _), (31, _), (32, _), (33, _), (34, _), (35, _), (36, _), (37, _), (38, _), (39, _), (40, _)], _⟩ (_ :: ψ) rfl rfl ?_
          refine JL_guard_yes rfl rfl ?_
          refine JL_idx i sl28 rfl rfl rfl (by omega) (by first | exact Reads.view (by repeat (first | with_reducible exact mm0 | refine mmS ?_))) (by first | (rw [u32s_length]; omega) | (rw [i64s_length]; omega)) ?_
          exact JL_nil (JE_stepV rfl ss0))), OblS_V (fun vals ex ψ => (by
          refine JL_normQ ⟨44, [(14, _), (15, _), (16, _), (17, _), (18, _), (19, _), (20, _), (21, _), (22, _), (23, _), (24, _), (25, _), (26, _), (27, _), (28, _), (29, _), (30, _), (31, _), (32, _), (33, _), (34, _), (35, _), (36, _), (37, _), (38, _), (39, _), (40, _)], _⟩ (_ :: ψ) rfl rfl ?_
          refine JL_guard_yes rfl rfl ?_
          refine JL_loadE ty3 rfl (by first | exact Reads.view (by repeat (first | with_reducible exact mm0 | refine mmS ?_))) (i64s_get (by omega)) ?_
          exact JL_nil (JE_stepV rfl ss0))), OblS_V (fun vals ex ψ => (by
          refine JL_normQ ⟨44, [(14, _), (15, _), (16, _), (17, _), (18, _), (19, _), (20, _), (21, _), (22, _), (23, _), (24, _), (25, _), (26, _), (27, _), (28, _), (29, _), (30, _), (31, _), (32, _), (33, _), (34, _), (35, _), (36, _), (37, _), (38, _), (39, _), (40, _)], _⟩ (_ :: ψ) rfl rfl ?_
          refine JL_guard_yes rfl rfl ?_
          refine JL_move rfl ?_
          exact JL_nil (JE_stepV rfl ss0))), OblS_V (fun vals ex ψ => (by
          refine JL_normQ ⟨44, [(14, _), (15, _), (16, _), (17, _), (18, _), (19, _), (20, _), (21, _), (22, _), (23, _), (24, _), (25, _), (26, _), (27, _), (28, _), (29, _), (30, _), (31, _), (32, _), (33, _), (34, _), (35, _), (36, _), (37, _), (38, _), (39, _), (40, _)], _⟩ (_ :: ψ) rfl rfl ?_
          refine JL_guard_yes rfl rfl ?_
          refine JL_gtr rfl rfl ?_
          rw [decide_eq_true (p := hi < L.getD i 0) (by omega)]
          exact JL_nil (JE_stepV rfl ss0))), OblS_V (fun vals ex ψ => (by
          refine JL_normQ ⟨44, [(14, _), (15, _), (16, _), (17, _), (18, _), (19, _), (20, _), (21, _), (22, _), (23, _), (24, _), (25, _), (26, _), (27, _), (28, _), (29, _), (30, _), (31, _), (32, _), (33, _), (34, _), (35, _), (36, _), (37, _), (38, _), (39, _), (40, _)], _⟩ (_ :: ψ) rfl rfl ?_
          refine JL_pick_f rfl rfl ?_
          exact JL_nil (JE_stepV rfl ss0))), OblS_V (fun vals ex ψ => (by
          refine JL_normQ ⟨44, [(14, _), (15, _), (16, _), (17, _), (18, _), (19, _), (20, _), (21, _), (22, _), (23, _), (24, _), (25, _), (26, _), (27, _), (28, _), (29, _), (30, _), (31, _), (32, _), (33, _), (34, _), (35, _), (36, _), (37, _), (38, _), (39, _), (40, _)], _⟩ (_ :: ψ) rfl rfl ?_
          refine JL_move rfl ?_
          exact JL_nil (JE_stepV rfl ss0))), OblS_V (fun vals ex ψ => (by
          refine JL_normQ ⟨44, [(14, _), (15, _), (16, _), (17, _), (18, _), (19, _), (20, _), (21, _), (22, _), (23, _), (24, _), (25, _), (26, _), (27, _), (28, _), (29, _), (30, _), (31, _), (32, _), (33, _), (34, _), (35, _), (36, _), (37, _), (38, _), (39, _), (40, _)], _⟩ (_ :: ψ) rfl rfl ?_
          refine JL_guard_no rfl rfl ?_
          exact JL_nil (JE_stepV rfl ss0))), OblS_V (fun vals ex ψ => (by
          refine JL_normQ ⟨44, [(14, _), (15, _), (16, _), (17, _), (18, _), (19, _), (20, _), (21, _), (22, _), (23, _), (24, _), (25, _), (26, _), (27, _), (28, _), (29, _), (30, _), (31, _), (32, _), (33, _), (34, _), (35, _), (36, _), (37, _), (38, _), (39, _), (40, _)], _⟩ (_ :: ψ) rfl rfl ?_
          refine JL_guard_no rfl rfl ?_
          exact JL_nil (JE_stepV rfl ss0))), OblS_V (fun vals ex ψ => (by
          refine JL_normQ ⟨44, [(14, _), (15, _), (16, _), (17, _), (18, _), (19, _), (20, _), (21, _), (22, _), (23, _), (24, _), (25, _), (26, _), (27, _), (28, _), (29, _), (30, _), (31, _), (32, _), (33, _), (34, _), (35, _), (36, _), (37, _), (38, _), (39, _), (40, _)], _⟩ (_ :: ψ) rfl rfl ?_
          refine JL_guard_no rfl rfl ?_
          exact JL_nil (JE_stepV rfl ss0))), OblS_V (fun vals ex ψ => (by
          refine JL_normQ ⟨44, [(14, _), (15, _), (16, _), (17, _), (18, _), (19, _), (20, _), (21, _), (22, _), (23, _), (24, _), (25, _), (26, _), (27, _), (28, _), (29, _), (30, _), (31, _), (32, _), (33, _), (34, _), (35, _), (36, _), (37, _), (38, _), (39, _), (40, _)], _⟩ (_ :: ψ) rfl rfl ?_
          refine JL_guard_un rfl rfl ?_
          exact JL_nil (JE_stepV rfl ss0))), OblS_V (fun vals ex ψ => (by
          refine JL_normQ ⟨44, [(14, _), (15, _), (16, _), (17, _), (18, _), (19, _), (20, _), (21, _), (22, _), (23, _), (24, _), (25, _), (26, _), (27, _), (28, _), (29, _), (30, _), (31, _), (32, _), (33, _), (34, _), (35, _), (36, _), (37, _), (38, _), (39, _), (40, _)], _⟩ (_ :: ψ) rfl rfl ?_
          refine JL_guard_un rfl rfl ?_
          exact JL_nil (JE_stepV rfl ss0))), OblS_V (fun vals ex ψ => (by
          refine JL_normQ ⟨44, [(14, _), (15, _), (16, _), (17, _), (18, _), (19, _), (20, _), (21, _), (22, _), (23, _), (24, _), (25, _), (26, _), (27, _), (28, _), (29, _), (30, _), (31, _), (32, _), (33, _), (34, _), (35, _), (36, _), (37, _), (38, _), (39, _), (40, _)], _⟩ (_ :: ψ) rfl rfl ?_
          refine JL_guard_un rfl rfl ?_
          exact JL_nil (JE_stepV rfl ss0))), OblS_V (fun vals ex ψ => (by
          refine JL_normQ ⟨44, [(14, _), (15, _), (16, _), (17, _), (18, _), (19, _), (20, _), (21, _), (22, _), (23, _), (24, _), (25, _), (26, _), (27, _), (28, _), (29, _), (30, _), (31, _), (32, _), (33, _), (34, _), (35, _), (36, _), (37, _), (38, _), (39, _), (40, _)], _⟩ (_ :: ψ) rfl rfl ?_
          refine JL_guard_un rfl rfl ?_
          exact JL_nil (JE_stepV rfl ss0))), OblS_V (fun vals ex ψ => (by
          refine JL_normQ ⟨44, [(14, _), (15, _), (16, _), (17, _), (18, _), (19, _), (20, _), (21, _), (22, _), (23, _), (24, _), (25, _), (26, _), (27, _), (28, _), (29, _), (30, _), (31, _), (32, _), (33, _), (34, _), (35, _), (36, _), (37, _), (38, _), (39, _), (40, _)], _⟩ (_ :: ψ) rfl rfl ?_
          refine JL_guard_un rfl rfl ?_
          exact JL_nil (JE_stepV rfl ss0))), OblS_V (fun vals ex ψ => (by
          refine JL_normQ ⟨44, [(14, _), (15, _), (16, _), (17, _), (18, _), (19, _), (20, _), (21, _), (22, _), (23, _), (24, _), (25, _), (26, _), (27, _), (28, _), (29, _), (30, _), (31, _), (32, _), (33, _), (34, _), (35, _), (36, _), (37, _), (38, _), (39, _), (40, _)], _⟩ (_ :: ψ) rfl rfl ?_
          refine JL_guard_un rfl rfl ?_
          exact JL_nil (JE_stepV rfl ss0))), OblS_V (fun vals ex ψ => (by
          refine JL_normQ ⟨44, [(14, _), (15, _), (16, _), (17, _), (18, _), (19, _), (20, _), (21, _), (22, _), (23, _), (24, _), (25, _), (26, _), (27, _), (28, _), (29, _), (30, _), (31, _), (32, _), (33, _), (34, _), (35, _), (36, _), (37, _), (38, _), (39, _), (40, _)], _⟩ (_ :: ψ) rfl rfl ?_
          refine JL_guard_un rfl rfl ?_
          exact JL_nil (JE_stepV rfl ss0))), OblS_V (fun vals ex ψ => (by
          refine JL_normQ ⟨44, [(14, _), (15, _), (16, _), (17, _), (18, _), (19, _), (20, _), (21, _), (22, _), (23, _), (24, _), (25, _), (26, _), (27, _), (28, _), (29, _), (30, _), (31, _), (32, _), (33, _), (34, _), (35, _), (36, _), (37, _), (38, _), (39, _), (40, _)], _⟩ (_ :: ψ) rfl rfl ?_
          refine JL_guard_un rfl rfl ?_
          exact JL_nil (JE_stepV rfl ss0))), OblS_V (fun vals ex ψ => (by
          refine JL_normQ ⟨44, [(14, _), (15, _), (16, _), (17, _), (18, _), (19, _), (20, _), (21, _), (22, _), (23, _), (24, _), (25, _), (26, _), (27, _), (28, _), (29, _), (30, _), (31, _), (32, _), (33, _), (34, _), (35, _), (36, _), (37, _), (38, _), (39, _), (40, _)], _⟩ (_ :: ψ) rfl rfl ?_
          refine JL_guard_un rfl rfl ?_
          exact JL_nil (JE_stepV rfl ss0))), trivial⟩ (by kernel_rfl) (fun vals bs => ?_)
      refine JL_normL [_, _, _] ⟨44, [(14, _), (15, _), (16, _), (17, _), (18, _), (19, _), (20, _), (21, _), (22, _), (23, _), (24, _), (25, _), (26, _), (27, _), (28, _), (29, _), (30, _), (31, _), (32, _), (33, _), (34, _), (35, _), (36, _), (37, _), (38, _), (39, _), (40, _)], _⟩ [] [_] rfl rfl rfl rfl ?_
      refine JL_guard_un rfl rfl ?_
      refine JL_guard_no rfl rfl ?_
      refine JL_pick_t rfl rfl ?_
      refine JL_done_up 44 [] [_] rfl rfl (by simp only [nrmF]; rfl) rfl rfl ?_
      refine JC_true rfl ?_
      refine JC_seq ?_
      refine JC_region ?_
      refine JL_assign rfl ?_
      refine JL_done_up 44 [] [_] rfl rfl (by simp only [nrmF]; rfl) rfl rfl ?_
      refine JC_ret ?_
      refine JE_block_ret ?_
      refine JE_then_ret ?_
      refine JE_nextS_ret ?_
      refine JE_block_ret ?_
      refine JE_then_ret ?_
      refine JE_ret (vs := [_]) [] Try.results48 ⟨rfl, rfl⟩ ?_ ?_
      · rw [upC_no (i := i) (by omega) (fun h => by have := h.1; have := h.2; omega)]; exact ⟨rfl, rfl⟩
      · exact all_nil
    · refine JC_drawT mixed 27 [spV 14 [] _, spV 15 [] _, spV 16 [0, 1] _, spV 17 [2] _, spV 18 [] _, spV 19 [3, 4] _, spV 20 [5] _, spV 21 [6] _, spV 22 [6] _, spV 23 [6, 7, 8] _, spV 24 [6, 9] _, spV 25 [6] _, spV 26 [6, 10, 11] _, spV 27 [6, 12] _, spV 28 [13] _, spV 29 [14] _, spV 30 [14, 15] _, spV 31 [14, 16] _, spV 32 [17] _, spV 33 [17] _, spV 34 [17, 18, 19] _, spV 35 [17, 20] _, spV 36 [17] _, spV 37 [17] _, spV 38 [17, 23] _, spV 39 [17, 22, 24] _, spV 40 [17, 25] _] ⟨OblS_V (fun vals ex ψ => (by
          refine JL_normQ ⟨44, [(14, _), (15, _), (16, _), (17, _), (18, _), (19, _), (20, _), (21, _), (22, _), (23, _), (24, _), (25, _), (26, _), (27, _), (28, _), (29, _), (30, _), (31, _), (32, _), (33, _), (34, _), (35, _), (36, _), (37, _), (38, _), (39, _), (40, _)], _⟩ (_ :: ψ) rfl rfl ?_
          refine JL_move rfl ?_
          exact JL_nil (JE_stepV rfl ss0))), OblS_V (fun vals ex ψ => (by
          refine JL_normQ ⟨44, [(14, _), (15, _), (16, _), (17, _), (18, _), (19, _), (20, _), (21, _), (22, _), (23, _), (24, _), (25, _), (26, _), (27, _), (28, _), (29, _), (30, _), (31, _), (32, _), (33, _), (34, _), (35, _), (36, _), (37, _), (38, _), (39, _), (40, _)], _⟩ (_ :: ψ) rfl rfl ?_
          refine JL_move rfl ?_
          exact JL_nil (JE_stepV rfl ss0))), OblS_V (fun vals ex ψ => (by
          refine JL_normQ ⟨44, [(14, _), (15, _), (16, _), (17, _), (18, _), (19, _), (20, _), (21, _), (22, _), (23, _), (24, _), (25, _), (26, _), (27, _), (28, _), (29, _), (30, _), (31, _), (32, _), (33, _), (34, _), (35, _), (36, _), (37, _), (38, _), (39, _), (40, _)], _⟩ (_ :: ψ) rfl rfl ?_
          refine JL_idx i sl28 rfl rfl rfl (by omega) (by first | exact Reads.view (by repeat (first | with_reducible exact mm0 | refine mmS ?_))) (by first | (rw [u32s_length]; omega) | (rw [i64s_length]; omega)) ?_
          exact JL_nil (JE_stepV rfl ss0))), OblS_V (fun vals ex ψ => (by
          refine JL_normQ ⟨44, [(14, _), (15, _), (16, _), (17, _), (18, _), (19, _), (20, _), (21, _), (22, _), (23, _), (24, _), (25, _), (26, _), (27, _), (28, _), (29, _), (30, _), (31, _), (32, _), (33, _), (34, _), (35, _), (36, _), (37, _), (38, _), (39, _), (40, _)], _⟩ (_ :: ψ) rfl rfl ?_
          refine JL_loadE ty3 rfl (by first | exact Reads.view (by repeat (first | with_reducible exact mm0 | refine mmS ?_))) (i64s_get (by omega)) ?_
          exact JL_nil (JE_stepV rfl ss0))), OblS_V (fun vals ex ψ => (by
          refine JL_normQ ⟨44, [(14, _), (15, _), (16, _), (17, _), (18, _), (19, _), (20, _), (21, _), (22, _), (23, _), (24, _), (25, _), (26, _), (27, _), (28, _), (29, _), (30, _), (31, _), (32, _), (33, _), (34, _), (35, _), (36, _), (37, _), (38, _), (39, _), (40, _)], _⟩ (_ :: ψ) rfl rfl ?_
          refine JL_move rfl ?_
          exact JL_nil (JE_stepV rfl ss0))), OblS_V (fun vals ex ψ => (by
          refine JL_normQ ⟨44, [(14, _), (15, _), (16, _), (17, _), (18, _), (19, _), (20, _), (21, _), (22, _), (23, _), (24, _), (25, _), (26, _), (27, _), (28, _), (29, _), (30, _), (31, _), (32, _), (33, _), (34, _), (35, _), (36, _), (37, _), (38, _), (39, _), (40, _)], _⟩ (_ :: ψ) rfl rfl ?_
          refine JL_lss rfl rfl ?_
          rw [decide_eq_false (p := L.getD i 0 < lo) (by omega)]
          exact JL_nil (JE_stepV rfl ss0))), OblS_V (fun vals ex ψ => (by
          refine JL_normQ ⟨44, [(14, _), (15, _), (16, _), (17, _), (18, _), (19, _), (20, _), (21, _), (22, _), (23, _), (24, _), (25, _), (26, _), (27, _), (28, _), (29, _), (30, _), (31, _), (32, _), (33, _), (34, _), (35, _), (36, _), (37, _), (38, _), (39, _), (40, _)], _⟩ (_ :: ψ) rfl rfl ?_
          refine JL_move rfl ?_
          exact JL_nil (JE_stepV rfl ss0))), OblS_V (fun vals ex ψ => (by
          refine JL_normQ ⟨44, [(14, _), (15, _), (16, _), (17, _), (18, _), (19, _), (20, _), (21, _), (22, _), (23, _), (24, _), (25, _), (26, _), (27, _), (28, _), (29, _), (30, _), (31, _), (32, _), (33, _), (34, _), (35, _), (36, _), (37, _), (38, _), (39, _), (40, _)], _⟩ (_ :: ψ) rfl rfl ?_
          refine JL_guard_yes rfl rfl ?_
          refine JL_move rfl ?_
          exact JL_nil (JE_stepV rfl ss0))), OblS_V (fun vals ex ψ => (by
          refine JL_normQ ⟨44, [(14, _), (15, _), (16, _), (17, _), (18, _), (19, _), (20, _), (21, _), (22, _), (23, _), (24, _), (25, _), (26, _), (27, _), (28, _), (29, _), (30, _), (31, _), (32, _), (33, _), (34, _), (35, _), (36, _), (37, _), (38, _), (39, _), (40, _)], _⟩ (_ :: ψ) rfl rfl ?_
          refine JL_guard_yes rfl rfl ?_
          refine JL_move rfl ?_
          exact JL_nil (JE_stepV rfl ss0))), OblS_V (fun vals ex ψ => (by
          refine JL_normQ ⟨44, [(14, _), (15, _), (16, _), (17, _), (18, _), (19, _), (20, _), (21, _), (22, _), (23, _), (24, _), (25, _), (26, _), (27, _), (28, _), (29, _), (30, _), (31, _), (32, _), (33, _), (34, _), (35, _), (36, _), (37, _), (38, _), (39, _), (40, _)], _⟩ (_ :: ψ) rfl rfl ?_
          refine JL_guard_yes rfl rfl ?_
          refine JL_idx i sl28 rfl rfl rfl (by omega) (by first | exact Reads.view (by repeat (first | with_reducible exact mm0 | refine mmS ?_))) (by first | (rw [u32s_length]; omega) | (rw [i64s_length]; omega)) ?_
          exact JL_nil (JE_stepV rfl ss0))), OblS_V (fun vals ex ψ => (by
          refine JL_normQ ⟨44, [(14, _), (15, _), (16, _), (17, _), (18, _), (19, _), (20, _), (21, _), (22, _), (23, _), (24, _), (25, _), (26, _), (27, _), (28, _), (29, _), (30, _), (31, _), (32, _), (33, _), (34, _), (35, _), (36, _), (37, _), (38, _), (39, _), (40, _)], _⟩ (_ :: ψ) rfl rfl ?_
          refine JL_guard_yes rfl rfl ?_
          refine JL_loadE ty3 rfl (by first | exact Reads.view (by repeat (first | with_reducible exact mm0 | refine mmS ?_))) (i64s_get (by omega)) ?_
          exact JL_nil (JE_stepV rfl ss0))), OblS_V (fun vals ex ψ => (by
          refine JL_normQ ⟨44, [(14, _), (15, _), (16, _), (17, _), (18, _), (19, _), (20, _), (21, _), (22, _), (23, _), (24, _), (25, _), (26, _), (27, _), (28, _), (29, _), (30, _), (31, _), (32, _), (33, _), (34, _), (35, _), (36, _), (37, _), (38, _), (39, _), (40, _)], _⟩ (_ :: ψ) rfl rfl ?_
          refine JL_guard_yes rfl rfl ?_
          refine JL_move rfl ?_
          exact JL_nil (JE_stepV rfl ss0))), OblS_V (fun vals ex ψ => (by
          refine JL_normQ ⟨44, [(14, _), (15, _), (16, _), (17, _), (18, _), (19, _), (20, _), (21, _), (22, _), (23, _), (24, _), (25, _), (26, _), (27, _), (28, _), (29, _), (30, _), (31, _), (32, _), (33, _), (34, _), (35, _), (36, _), (37, _), (38, _), (39, _), (40, _)], _⟩ (_ :: ψ) rfl rfl ?_
          refine JL_guard_yes rfl rfl ?_
          refine JL_gtr rfl rfl ?_
          rw [decide_eq_false (p := hi < L.getD i 0) (by omega)]
          exact JL_nil (JE_stepV rfl ss0))), OblS_V (fun vals ex ψ => (by
          refine JL_normQ ⟨44, [(14, _), (15, _), (16, _), (17, _), (18, _), (19, _), (20, _), (21, _), (22, _), (23, _), (24, _), (25, _), (26, _), (27, _), (28, _), (29, _), (30, _), (31, _), (32, _), (33, _), (34, _), (35, _), (36, _), (37, _), (38, _), (39, _), (40, _)], _⟩ (_ :: ψ) rfl rfl ?_
          refine JL_pick_f rfl rfl ?_
          exact JL_nil (JE_stepV rfl ss0))), OblS_V (fun vals ex ψ => (by
          refine JL_normQ ⟨44, [(14, _), (15, _), (16, _), (17, _), (18, _), (19, _), (20, _), (21, _), (22, _), (23, _), (24, _), (25, _), (26, _), (27, _), (28, _), (29, _), (30, _), (31, _), (32, _), (33, _), (34, _), (35, _), (36, _), (37, _), (38, _), (39, _), (40, _)], _⟩ (_ :: ψ) rfl rfl ?_
          refine JL_move rfl ?_
          exact JL_nil (JE_stepV rfl ss0))), OblS_V (fun vals ex ψ => (by
          refine JL_normQ ⟨44, [(14, _), (15, _), (16, _), (17, _), (18, _), (19, _), (20, _), (21, _), (22, _), (23, _), (24, _), (25, _), (26, _), (27, _), (28, _), (29, _), (30, _), (31, _), (32, _), (33, _), (34, _), (35, _), (36, _), (37, _), (38, _), (39, _), (40, _)], _⟩ (_ :: ψ) rfl rfl ?_
          refine JL_guard_yes rfl rfl ?_
          refine JL_move rfl ?_
          exact JL_nil (JE_stepV rfl ss0))), OblS_V (fun vals ex ψ => (by
          refine JL_normQ ⟨44, [(14, _), (15, _), (16, _), (17, _), (18, _), (19, _), (20, _), (21, _), (22, _), (23, _), (24, _), (25, _), (26, _), (27, _), (28, _), (29, _), (30, _), (31, _), (32, _), (33, _), (34, _), (35, _), (36, _), (37, _), (38, _), (39, _), (40, _)], _⟩ (_ :: ψ) rfl rfl ?_
          refine JL_guard_yes rfl rfl ?_
          refine JL_gtr rfl rfl ?_
          rw [decide_eq_false (p := (0 : Int) < (i : Int)) (by omega)]
          exact JL_nil (JE_stepV rfl ss0))), OblS_V (fun vals ex ψ => (by
          refine JL_normQ ⟨44, [(14, _), (15, _), (16, _), (17, _), (18, _), (19, _), (20, _), (21, _), (22, _), (23, _), (24, _), (25, _), (26, _), (27, _), (28, _), (29, _), (30, _), (31, _), (32, _), (33, _), (34, _), (35, _), (36, _), (37, _), (38, _), (39, _), (40, _)], _⟩ (_ :: ψ) rfl rfl ?_
          refine JL_guard_yes rfl rfl ?_
          refine JL_move rfl ?_
          exact JL_nil (JE_stepV rfl ss0))), OblS_V (fun vals ex ψ => (by
          refine JL_normQ ⟨44, [(14, _), (15, _), (16, _), (17, _), (18, _), (19, _), (20, _), (21, _), (22, _), (23, _), (24, _), (25, _), (26, _), (27, _), (28, _), (29, _), (30, _), (31, _), (32, _), (33, _), (34, _), (35, _), (36, _), (37, _), (38, _), (39, _), (40, _)], _⟩ (_ :: ψ) rfl rfl ?_
          refine JL_guard_no rfl rfl ?_
          exact JL_nil (JE_stepV rfl ss0))), OblS_V (fun vals ex ψ => (by
          refine JL_normQ ⟨44, [(14, _), (15, _), (16, _), (17, _), (18, _), (19, _), (20, _), (21, _), (22, _), (23, _), (24, _), (25, _), (26, _), (27, _), (28, _), (29, _), (30, _), (31, _), (32, _), (33, _), (34, _), (35, _), (36, _), (37, _), (38, _), (39, _), (40, _)], _⟩ (_ :: ψ) rfl rfl ?_
          refine JL_guard_no rfl rfl ?_
          exact JL_nil (JE_stepV rfl ss0))), OblS_V (fun vals ex ψ => (by
          refine JL_normQ ⟨44, [(14, _), (15, _), (16, _), (17, _), (18, _), (19, _), (20, _), (21, _), (22, _), (23, _), (24, _), (25, _), (26, _), (27, _), (28, _), (29, _), (30, _), (31, _), (32, _), (33, _), (34, _), (35, _), (36, _), (37, _), (38, _), (39, _), (40, _)], _⟩ (_ :: ψ) rfl rfl ?_
          refine JL_guard_no rfl rfl ?_
          exact JL_nil (JE_stepV rfl ss0))), OblS_V (fun vals ex ψ => (by
          refine JL_normQ ⟨44, [(14, _), (15, _), (16, _), (17, _), (18, _), (19, _), (20, _), (21, _), (22, _), (23, _), (24, _), (25, _), (26, _), (27, _), (28, _), (29, _), (30, _), (31, _), (32, _), (33, _), (34, _), (35, _), (36, _), (37, _), (38, _), (39, _), (40, _)], _⟩ (_ :: ψ) rfl rfl ?_
          refine JL_guard_no rfl rfl ?_
          exact JL_nil (JE_stepV rfl ss0))), OblS_V (fun vals ex ψ => (by
          refine JL_normQ ⟨44, [(14, _), (15, _), (16, _), (17, _), (18, _), (19, _), (20, _), (21, _), (22, _), (23, _), (24, _), (25, _), (26, _), (27, _), (28, _), (29, _), (30, _), (31, _), (32, _), (33, _), (34, _), (35, _), (36, _), (37, _), (38, _), (39, _), (40, _)], _⟩ (_ :: ψ) rfl rfl ?_
          refine JL_guard_no rfl rfl ?_
          exact JL_nil (JE_stepV rfl ss0))), OblS_V (fun vals ex ψ => (by
          refine JL_normQ ⟨44, [(14, _), (15, _), (16, _), (17, _), (18, _), (19, _), (20, _), (21, _), (22, _), (23, _), (24, _), (25, _), (26, _), (27, _), (28, _), (29, _), (30, _), (31, _), (32, _), (33, _), (34, _), (35, _), (36, _), (37, _), (38, _), (39, _), (40, _)], _⟩ (_ :: ψ) rfl rfl ?_
          refine JL_guard_no rfl rfl ?_
          exact JL_nil (JE_stepV rfl ss0))), OblS_V (fun vals ex ψ => (by
          refine JL_normQ ⟨44, [(14, _), (15, _), (16, _), (17, _), (18, _), (19, _), (20, _), (21, _), (22, _), (23, _), (24, _), (25, _), (26, _), (27, _), (28, _), (29, _), (30, _), (31, _), (32, _), (33, _), (34, _), (35, _), (36, _), (37, _), (38, _), (39, _), (40, _)], _⟩ (_ :: ψ) rfl rfl ?_
          refine JL_guard_no rfl rfl ?_
          exact JL_nil (JE_stepV rfl ss0))), OblS_V (fun vals ex ψ => (by
          refine JL_normQ ⟨44, [(14, _), (15, _), (16, _), (17, _), (18, _), (19, _), (20, _), (21, _), (22, _), (23, _), (24, _), (25, _), (26, _), (27, _), (28, _), (29, _), (30, _), (31, _), (32, _), (33, _), (34, _), (35, _), (36, _), (37, _), (38, _), (39, _), (40, _)], _⟩ (_ :: ψ) rfl rfl ?_
          refine JL_guard_no rfl rfl ?_
          exact JL_nil (JE_stepV rfl ss0))), OblS_V (fun vals ex ψ => (by
          refine JL_normQ ⟨44, [(14, _), (15, _), (16, _), (17, _), (18, _), (19, _), (20, _), (21, _), (22, _), (23, _), (24, _), (25, _), (26, _), (27, _), (28, _), (29, _), (30, _), (31, _), (32, _), (33, _), (34, _), (35, _), (36, _), (37, _), (38, _), (39, _), (40, _)], _⟩ (_ :: ψ) rfl rfl ?_
          refine JL_guard_no rfl rfl ?_
          exact JL_nil (JE_stepV rfl ss0))), trivial⟩ (by kernel_rfl) (fun vals bs => ?_)
      refine JL_normL [_, _, _] ⟨44, [(14, _), (15, _), (16, _), (17, _), (18, _), (19, _), (20, _), (21, _), (22, _), (23, _), (24, _), (25, _), (26, _), (27, _), (28, _), (29, _), (30, _), (31, _), (32, _), (33, _), (34, _), (35, _), (36, _), (37, _), (38, _), (39, _), (40, _)], _⟩ [] [_] rfl rfl rfl rfl ?_
      refine JL_guard_no rfl rfl ?_
      refine JL_guard_yes rfl rfl ?_
      refine JL_pick_f rfl rfl ?_
      refine JL_pick_f rfl rfl ?_
      refine JL_done_up 44 [] [_] rfl rfl (by simp only [nrmF]; rfl) rfl rfl ?_
      refine JC_false rfl ?_
      refine JC_skip ?_
      refine JE_block_normal ?_
      refine JE_then ?_
      refine JC_region ?_
      refine JL_move rfl ?_
      refine JL_add_to rfl rfl (IntWalk.i64_in _ (by omega)) ?_
      refine JL_assign rfl ?_
      refine JL_nil_up 44 [] [_] rfl rfl (by simp only [nrmF]; rfl) rfl rfl ?_
      refine JE_nextS (i + 1) (by kernel_rfl) ?_ ?_ (by kernel_rfl) ?_
      · exact ⟨by omega, upNext hj ⟨by omega, by omega⟩⟩
      · first | omega | (dsimp only; omega)
      · exact subset_app subset_nil ss0
    · refine JC_drawT mixed 27 [spV 14 [] _, spV 15 [] _, spV 16 [0, 1] _, spV 17 [2] _, spV 18 [] _, spV 19 [3, 4] _, spV 20 [5] _, spV 21 [6] _, spV 22 [6] _, spV 23 [6, 7, 8] _, spV 24 [6, 9] _, spV 25 [6] _, spV 26 [6, 10, 11] _, spV 27 [6, 12] _, spV 28 [13] _, spV 29 [14] _, spV 30 [14, 15] _, spV 31 [14, 16] _, spV 32 [17] _, spV 33 [17] _, spV 34 [17, 18, 19] _, spV 35 [17, 20] _, spV 36 [17] _, spV 37 [17] _, spV 38 [17, 23] _, spV 39 [17, 22, 24] _, spV 40 [17, 25] _] ⟨OblS_V (fun vals ex ψ => (by
          refine JL_normQ ⟨44, [(14, _), (15, _), (16, _), (17, _), (18, _), (19, _), (20, _), (21, _), (22, _), (23, _), (24, _), (25, _), (26, _), (27, _), (28, _), (29, _), (30, _), (31, _), (32, _), (33, _), (34, _), (35, _), (36, _), (37, _), (38, _), (39, _), (40, _)], _⟩ (_ :: ψ) rfl rfl ?_
          refine JL_move rfl ?_
          exact JL_nil (JE_stepV rfl ss0))), OblS_V (fun vals ex ψ => (by
          refine JL_normQ ⟨44, [(14, _), (15, _), (16, _), (17, _), (18, _), (19, _), (20, _), (21, _), (22, _), (23, _), (24, _), (25, _), (26, _), (27, _), (28, _), (29, _), (30, _), (31, _), (32, _), (33, _), (34, _), (35, _), (36, _), (37, _), (38, _), (39, _), (40, _)], _⟩ (_ :: ψ) rfl rfl ?_
          refine JL_move rfl ?_
          exact JL_nil (JE_stepV rfl ss0))), OblS_V (fun vals ex ψ => (by
          refine JL_normQ ⟨44, [(14, _), (15, _), (16, _), (17, _), (18, _), (19, _), (20, _), (21, _), (22, _), (23, _), (24, _), (25, _), (26, _), (27, _), (28, _), (29, _), (30, _), (31, _), (32, _), (33, _), (34, _), (35, _), (36, _), (37, _), (38, _), (39, _), (40, _)], _⟩ (_ :: ψ) rfl rfl ?_
          refine JL_idx i sl28 rfl rfl rfl (by omega) (by first | exact Reads.view (by repeat (first | with_reducible exact mm0 | refine mmS ?_))) (by first | (rw [u32s_length]; omega) | (rw [i64s_length]; omega)) ?_
          exact JL_nil (JE_stepV rfl ss0))), OblS_V (fun vals ex ψ => (by
          refine JL_normQ ⟨44, [(14, _), (15, _), (16, _), (17, _), (18, _), (19, _), (20, _), (21, _), (22, _), (23, _), (24, _), (25, _), (26, _), (27, _), (28, _), (29, _), (30, _), (31, _), (32, _), (33, _), (34, _), (35, _), (36, _), (37, _), (38, _), (39, _), (40, _)], _⟩ (_ :: ψ) rfl rfl ?_
          refine JL_loadE ty3 rfl (by first | exact Reads.view (by repeat (first | with_reducible exact mm0 | refine mmS ?_))) (i64s_get (by omega)) ?_
          exact JL_nil (JE_stepV rfl ss0))), OblS_V (fun vals ex ψ => (by
          refine JL_normQ ⟨44, [(14, _), (15, _), (16, _), (17, _), (18, _), (19, _), (20, _), (21, _), (22, _), (23, _), (24, _), (25, _), (26, _), (27, _), (28, _), (29, _), (30, _), (31, _), (32, _), (33, _), (34, _), (35, _), (36, _), (37, _), (38, _), (39, _), (40, _)], _⟩ (_ :: ψ) rfl rfl ?_
          refine JL_move rfl ?_
          exact JL_nil (JE_stepV rfl ss0))), OblS_V (fun vals ex ψ => (by
          refine JL_normQ ⟨44, [(14, _), (15, _), (16, _), (17, _), (18, _), (19, _), (20, _), (21, _), (22, _), (23, _), (24, _), (25, _), (26, _), (27, _), (28, _), (29, _), (30, _), (31, _), (32, _), (33, _), (34, _), (35, _), (36, _), (37, _), (38, _), (39, _), (40, _)], _⟩ (_ :: ψ) rfl rfl ?_
          refine JL_lss rfl rfl ?_
          rw [decide_eq_false (p := L.getD i 0 < lo) (by omega)]
          exact JL_nil (JE_stepV rfl ss0))), OblS_V (fun vals ex ψ => (by
          refine JL_normQ ⟨44, [(14, _), (15, _), (16, _), (17, _), (18, _), (19, _), (20, _), (21, _), (22, _), (23, _), (24, _), (25, _), (26, _), (27, _), (28, _), (29, _), (30, _), (31, _), (32, _), (33, _), (34, _), (35, _), (36, _), (37, _), (38, _), (39, _), (40, _)], _⟩ (_ :: ψ) rfl rfl ?_
          refine JL_move rfl ?_
          exact JL_nil (JE_stepV rfl ss0))), OblS_V (fun vals ex ψ => (by
          refine JL_normQ ⟨44, [(14, _), (15, _), (16, _), (17, _), (18, _), (19, _), (20, _), (21, _), (22, _), (23, _), (24, _), (25, _), (26, _), (27, _), (28, _), (29, _), (30, _), (31, _), (32, _), (33, _), (34, _), (35, _), (36, _), (37, _), (38, _), (39, _), (40, _)], _⟩ (_ :: ψ) rfl rfl ?_
          refine JL_guard_yes rfl rfl ?_
          refine JL_move rfl ?_
          exact JL_nil (JE_stepV rfl ss0))), OblS_V (fun vals ex ψ => (by
          refine JL_normQ ⟨44, [(14, _), (15, _), (16, _), (17, _), (18, _), (19, _), (20, _), (21, _), (22, _), (23, _), (24, _), (25, _), (26, _), (27, _), (28, _), (29, _), (30, _), (31, _), (32, _), (33, _), (34, _), (35, _), (36, _), (37, _), (38, _), (39, _), (40, _)], _⟩ (_ :: ψ) rfl rfl ?_
          refine JL_guard_yes rfl rfl ?_
          refine JL_move rfl ?_
          exact JL_nil (JE_stepV rfl ss0))), OblS_V (fun vals ex ψ => (by
          refine JL_normQ ⟨44, [(14, _), (15, _), (16, _), (17, _), (18, _), (19, _), (20, _), (21, _), (22, _), (23, _), (24, _), (25, _), (26, _), (27, _), (28, _), (29, _), (30, _), (31, _), (32, _), (33, _), (34, _), (35, _), (36, _), (37, _), (38, _), (39, _), (40, _)], _⟩ (_ :: ψ) rfl rfl ?_
          refine JL_guard_yes rfl rfl ?_
          refine JL_idx i sl28 rfl rfl rfl (by omega) (by first | exact Reads.view (by repeat (first | with_reducible exact mm0 | refine mmS ?_))) (by first | (rw [u32s_length]; omega) | (rw [i64s_length]; omega)) ?_
          exact JL_nil (JE_stepV rfl ss0))), OblS_V (fun vals ex ψ => (by
          refine JL_normQ ⟨44, [(14, _), (15, _), (16, _), (17, _), (18, _), (19, _), (20, _), (21, _), (22, _), (23, _), (24, _), (25, _), (26, _), (27, _), (28, _), (29, _), (30, _), (31, _), (32, _), (33, _), (34, _), (35, _), (36, _), (37, _), (38, _), (39, _), (40, _)], _⟩ (_ :: ψ) rfl rfl ?_
          refine JL_guard_yes rfl rfl ?_
          refine JL_loadE ty3 rfl (by first | exact Reads.view (by repeat (first | with_reducible exact mm0 | refine mmS ?_))) (i64s_get (by omega)) ?_
          exact JL_nil (JE_stepV rfl ss0))), OblS_V (fun vals ex ψ => (by
          refine JL_normQ ⟨44, [(14, _), (15, _), (16, _), (17, _), (18, _), (19, _), (20, _), (21, _), (22, _), (23, _), (24, _), (25, _), (26, _), (27, _), (28, _), (29, _), (30, _), (31, _), (32, _), (33, _), (34, _), (35, _), (36, _), (37, _), (38, _), (39, _), (40, _)], _⟩ (_ :: ψ) rfl rfl ?_
          refine JL_guard_yes rfl rfl ?_
          refine JL_move rfl ?_
          exact JL_nil (JE_stepV rfl ss0))), OblS_V (fun vals ex ψ => (by
          refine JL_normQ ⟨44, [(14, _), (15, _), (16, _), (17, _), (18, _), (19, _), (20, _), (21, _), (22, _), (23, _), (24, _), (25, _), (26, _), (27, _), (28, _), (29, _), (30, _), (31, _), (32, _), (33, _), (34, _), (35, _), (36, _), (37, _), (38, _), (39, _), (40, _)], _⟩ (_ :: ψ) rfl rfl ?_
          refine JL_guard_yes rfl rfl ?_
          refine JL_gtr rfl rfl ?_
          rw [decide_eq_false (p := hi < L.getD i 0) (by omega)]
          exact JL_nil (JE_stepV rfl ss0))), OblS_V (fun vals ex ψ => (by
          refine JL_normQ ⟨44, [(14, _), (15, _), (16, _), (17, _), (18, _), (19, _), (20, _), (21, _), (22, _), (23, _), (24, _), (25, _), (26, _), (27, _), (28, _), (29, _), (30, _), (31, _), (32, _), (33, _), (34, _), (35, _), (36, _), (37, _), (38, _), (39, _), (40, _)], _⟩ (_ :: ψ) rfl rfl ?_
          refine JL_pick_f rfl rfl ?_
          exact JL_nil (JE_stepV rfl ss0))), OblS_V (fun vals ex ψ => (by
          refine JL_normQ ⟨44, [(14, _), (15, _), (16, _), (17, _), (18, _), (19, _), (20, _), (21, _), (22, _), (23, _), (24, _), (25, _), (26, _), (27, _), (28, _), (29, _), (30, _), (31, _), (32, _), (33, _), (34, _), (35, _), (36, _), (37, _), (38, _), (39, _), (40, _)], _⟩ (_ :: ψ) rfl rfl ?_
          refine JL_move rfl ?_
          exact JL_nil (JE_stepV rfl ss0))), OblS_V (fun vals ex ψ => (by
          refine JL_normQ ⟨44, [(14, _), (15, _), (16, _), (17, _), (18, _), (19, _), (20, _), (21, _), (22, _), (23, _), (24, _), (25, _), (26, _), (27, _), (28, _), (29, _), (30, _), (31, _), (32, _), (33, _), (34, _), (35, _), (36, _), (37, _), (38, _), (39, _), (40, _)], _⟩ (_ :: ψ) rfl rfl ?_
          refine JL_guard_yes rfl rfl ?_
          refine JL_move rfl ?_
          exact JL_nil (JE_stepV rfl ss0))), OblS_V (fun vals ex ψ => (by
          refine JL_normQ ⟨44, [(14, _), (15, _), (16, _), (17, _), (18, _), (19, _), (20, _), (21, _), (22, _), (23, _), (24, _), (25, _), (26, _), (27, _), (28, _), (29, _), (30, _), (31, _), (32, _), (33, _), (34, _), (35, _), (36, _), (37, _), (38, _), (39, _), (40, _)], _⟩ (_ :: ψ) rfl rfl ?_
          refine JL_guard_yes rfl rfl ?_
          refine JL_gtr rfl rfl ?_
          rw [decide_eq_true (p := (0 : Int) < (i : Int)) (by omega)]
          exact JL_nil (JE_stepV rfl ss0))), OblS_V (fun vals ex ψ => (by
          refine JL_normQ ⟨44, [(14, _), (15, _), (16, _), (17, _), (18, _), (19, _), (20, _), (21, _), (22, _), (23, _), (24, _), (25, _), (26, _), (27, _), (28, _), (29, _), (30, _), (31, _), (32, _), (33, _), (34, _), (35, _), (36, _), (37, _), (38, _), (39, _), (40, _)], _⟩ (_ :: ψ) rfl rfl ?_
          refine JL_guard_yes rfl rfl ?_
          refine JL_move rfl ?_
          exact JL_nil (JE_stepV rfl ss0))), OblS_V (fun vals ex ψ => (by
          refine JL_normQ ⟨44, [(14, _), (15, _), (16, _), (17, _), (18, _), (19, _), (20, _), (21, _), (22, _), (23, _), (24, _), (25, _), (26, _), (27, _), (28, _), (29, _), (30, _), (31, _), (32, _), (33, _), (34, _), (35, _), (36, _), (37, _), (38, _), (39, _), (40, _)], _⟩ (_ :: ψ) rfl rfl ?_
          refine JL_guard_yes rfl rfl ?_
          refine JL_move rfl ?_
          exact JL_nil (JE_stepV rfl ss0))), OblS_V (fun vals ex ψ => (by
          refine JL_normQ ⟨44, [(14, _), (15, _), (16, _), (17, _), (18, _), (19, _), (20, _), (21, _), (22, _), (23, _), (24, _), (25, _), (26, _), (27, _), (28, _), (29, _), (30, _), (31, _), (32, _), (33, _), (34, _), (35, _), (36, _), (37, _), (38, _), (39, _), (40, _)], _⟩ (_ :: ψ) rfl rfl ?_
          refine JL_guard_yes rfl rfl ?_
          refine JL_move rfl ?_
          exact JL_nil (JE_stepV rfl ss0))), OblS_V (fun vals ex ψ => (by
          refine JL_normQ ⟨44, [(14, _), (15, _), (16, _), (17, _), (18, _), (19, _), (20, _), (21, _), (22, _), (23, _), (24, _), (25, _), (26, _), (27, _), (28, _), (29, _), (30, _), (31, _), (32, _), (33, _), (34, _), (35, _), (36, _), (37, _), (38, _), (39, _), (40, _)], _⟩ (_ :: ψ) rfl rfl ?_
          refine JL_guard_yes rfl rfl ?_
          refine JL_idx i sl28 rfl rfl rfl (by omega) (by first | exact Reads.view (by repeat (first | with_reducible exact mm0 | refine mmS ?_))) (by first | (rw [u32s_length]; omega) | (rw [i64s_length]; omega)) ?_
          exact JL_nil (JE_stepV rfl ss0))), OblS_V (fun vals ex ψ => (by
          refine JL_normQ ⟨44, [(14, _), (15, _), (16, _), (17, _), (18, _), (19, _), (20, _), (21, _), (22, _), (23, _), (24, _), (25, _), (26, _), (27, _), (28, _), (29, _), (30, _), (31, _), (32, _), (33, _), (34, _), (35, _), (36, _), (37, _), (38, _), (39, _), (40, _)], _⟩ (_ :: ψ) rfl rfl ?_
          refine JL_guard_yes rfl rfl ?_
          refine JL_loadE ty3 rfl (by first | exact Reads.view (by repeat (first | with_reducible exact mm0 | refine mmS ?_))) (i64s_get (by omega)) ?_
          exact JL_nil (JE_stepV rfl ss0))), OblS_V (fun vals ex ψ => (by
          refine JL_normQ ⟨44, [(14, _), (15, _), (16, _), (17, _), (18, _), (19, _), (20, _), (21, _), (22, _), (23, _), (24, _), (25, _), (26, _), (27, _), (28, _), (29, _), (30, _), (31, _), (32, _), (33, _), (34, _), (35, _), (36, _), (37, _), (38, _), (39, _), (40, _)], _⟩ (_ :: ψ) rfl rfl ?_
          refine JL_guard_yes rfl rfl ?_
          refine JL_move rfl ?_
          exact JL_nil (JE_stepV rfl ss0))), OblS_V (fun vals ex ψ => (by
          refine JL_normQ ⟨44, [(14, _), (15, _), (16, _), (17, _), (18, _), (19, _), (20, _), (21, _), (22, _), (23, _), (24, _), (25, _), (26, _), (27, _), (28, _), (29, _), (30, _), (31, _), (32, _), (33, _), (34, _), (35, _), (36, _), (37, _), (38, _), (39, _), (40, _)], _⟩ (_ :: ψ) rfl rfl ?_
          refine JL_guard_yes rfl rfl ?_
          refine JL_move rfl ?_
          exact JL_nil (JE_stepV rfl ss0))), OblS_V (fun vals ex ψ => (by
          refine JL_normQ ⟨44, [(14, _), (15, _), (16, _), (17, _), (18, _), (19, _), (20, _), (21, _), (22, _), (23, _), (24, _), (25, _), (26, _), (27, _), (28, _), (29, _), (30, _), (31, _), (32, _), (33, _), (34, _), (35, _), (36, _), (37, _), (38, _), (39, _), (40, _)], _⟩ (_ :: ψ) rfl rfl ?_
          refine JL_guard_yes rfl rfl ?_
          refine JL_sub_to rfl rfl (IntWalk.i64_in _ (by omega)) ?_
          exact JL_nil (JE_stepV rfl ss0))), OblS_V (fun vals ex ψ => (by
          refine JL_normQ ⟨44, [(14, _), (15, _), (16, _), (17, _), (18, _), (19, _), (20, _), (21, _), (22, _), (23, _), (24, _), (25, _), (26, _), (27, _), (28, _), (29, _), (30, _), (31, _), (32, _), (33, _), (34, _), (35, _), (36, _), (37, _), (38, _), (39, _), (40, _)], _⟩ (_ :: ψ) rfl rfl ?_
          refine JL_guard_yes rfl rfl ?_
          refine JL_idx (i - 1) sl28 rfl rfl (by omega) (by omega) (by first | exact Reads.view (by repeat (first | with_reducible exact mm0 | refine mmS ?_))) (by first | (rw [u32s_length]; omega) | (rw [i64s_length]; omega)) ?_
          exact JL_nil (JE_stepV rfl ss0))), OblS_V (fun vals ex ψ => (by
          refine JL_normQ ⟨44, [(14, _), (15, _), (16, _), (17, _), (18, _), (19, _), (20, _), (21, _), (22, _), (23, _), (24, _), (25, _), (26, _), (27, _), (28, _), (29, _), (30, _), (31, _), (32, _), (33, _), (34, _), (35, _), (36, _), (37, _), (38, _), (39, _), (40, _)], _⟩ (_ :: ψ) rfl rfl ?_
          refine JL_guard_yes rfl rfl ?_
          refine JL_loadE ty3 rfl (by first | exact Reads.view (by repeat (first | with_reducible exact mm0 | refine mmS ?_))) (i64s_get (by omega)) ?_
          exact JL_nil (JE_stepV rfl ss0))), trivial⟩ (by kernel_rfl) (fun vals bs => ?_)
      refine JL_normL [_, _, _] ⟨44, [(14, _), (15, _), (16, _), (17, _), (18, _), (19, _), (20, _), (21, _), (22, _), (23, _), (24, _), (25, _), (26, _), (27, _), (28, _), (29, _), (30, _), (31, _), (32, _), (33, _), (34, _), (35, _), (36, _), (37, _), (38, _), (39, _), (40, _)], _⟩ [] [_] rfl rfl rfl rfl ?_
      refine JL_guard_yes rfl rfl ?_
      refine JL_leq rfl rfl ?_
      rw [decide_eq_true (p := L.getD i 0 ≤ L.getD (i - 1) 0) (by omega)]
      refine JL_guard_yes rfl rfl ?_
      refine JL_pick_t rfl rfl ?_
      refine JL_pick_f rfl rfl ?_
      refine JL_done_up 44 [] [_] rfl rfl (by simp only [nrmF]; rfl) rfl rfl ?_
      refine JC_true rfl ?_
      refine JC_seq ?_
      refine JC_region ?_
      refine JL_assign rfl ?_
      refine JL_done_up 44 [] [_] rfl rfl (by simp only [nrmF]; rfl) rfl rfl ?_
      refine JC_ret ?_
      refine JE_block_ret ?_
      refine JE_then_ret ?_
      refine JE_nextS_ret ?_
      refine JE_block_ret ?_
      refine JE_then_ret ?_
      refine JE_ret (vs := [_]) [] Try.results48 ⟨rfl, rfl⟩ ?_ ?_
      · rw [upC_no (i := i) (by omega) (fun h => by have := h.1; have := h.2; omega)]; exact ⟨rfl, rfl⟩
      · exact all_nil
    · refine JC_drawT mixed 27 [spV 14 [] _, spV 15 [] _, spV 16 [0, 1] _, spV 17 [2] _, spV 18 [] _, spV 19 [3, 4] _, spV 20 [5] _, spV 21 [6] _, spV 22 [6] _, spV 23 [6, 7, 8] _, spV 24 [6, 9] _, spV 25 [6] _, spV 26 [6, 10, 11] _, spV 27 [6, 12] _, spV 28 [13] _, spV 29 [14] _, spV 30 [14, 15] _, spV 31 [14, 16] _, spV 32 [17] _, spV 33 [17] _, spV 34 [17, 18, 19] _, spV 35 [17, 20] _, spV 36 [17] _, spV 37 [17] _, spV 38 [17, 23] _, spV 39 [17, 22, 24] _, spV 40 [17, 25] _] ⟨OblS_V (fun vals ex ψ => (by
          refine JL_normQ ⟨44, [(14, _), (15, _), (16, _), (17, _), (18, _), (19, _), (20, _), (21, _), (22, _), (23, _), (24, _), (25, _), (26, _), (27, _), (28, _), (29, _), (30, _), (31, _), (32, _), (33, _), (34, _), (35, _), (36, _), (37, _), (38, _), (39, _), (40, _)], _⟩ (_ :: ψ) rfl rfl ?_
          refine JL_move rfl ?_
          exact JL_nil (JE_stepV rfl ss0))), OblS_V (fun vals ex ψ => (by
          refine JL_normQ ⟨44, [(14, _), (15, _), (16, _), (17, _), (18, _), (19, _), (20, _), (21, _), (22, _), (23, _), (24, _), (25, _), (26, _), (27, _), (28, _), (29, _), (30, _), (31, _), (32, _), (33, _), (34, _), (35, _), (36, _), (37, _), (38, _), (39, _), (40, _)], _⟩ (_ :: ψ) rfl rfl ?_
          refine JL_move rfl ?_
          exact JL_nil (JE_stepV rfl ss0))), OblS_V (fun vals ex ψ => (by
          refine JL_normQ ⟨44, [(14, _), (15, _), (16, _), (17, _), (18, _), (19, _), (20, _), (21, _), (22, _), (23, _), (24, _), (25, _), (26, _), (27, _), (28, _), (29, _), (30, _), (31, _), (32, _), (33, _), (34, _), (35, _), (36, _), (37, _), (38, _), (39, _), (40, _)], _⟩ (_ :: ψ) rfl rfl ?_
          refine JL_idx i sl28 rfl rfl rfl (by omega) (by first | exact Reads.view (by repeat (first | with_reducible exact mm0 | refine mmS ?_))) (by first | (rw [u32s_length]; omega) | (rw [i64s_length]; omega)) ?_
          exact JL_nil (JE_stepV rfl ss0))), OblS_V (fun vals ex ψ => (by
          refine JL_normQ ⟨44, [(14, _), (15, _), (16, _), (17, _), (18, _), (19, _), (20, _), (21, _), (22, _), (23, _), (24, _), (25, _), (26, _), (27, _), (28, _), (29, _), (30, _), (31, _), (32, _), (33, _), (34, _), (35, _), (36, _), (37, _), (38, _), (39, _), (40, _)], _⟩ (_ :: ψ) rfl rfl ?_
          refine JL_loadE ty3 rfl (by first | exact Reads.view (by repeat (first | with_reducible exact mm0 | refine mmS ?_))) (i64s_get (by omega)) ?_
          exact JL_nil (JE_stepV rfl ss0))), OblS_V (fun vals ex ψ => (by
          refine JL_normQ ⟨44, [(14, _), (15, _), (16, _), (17, _), (18, _), (19, _), (20, _), (21, _), (22, _), (23, _), (24, _), (25, _), (26, _), (27, _), (28, _), (29, _), (30, _), (31, _), (32, _), (33, _), (34, _), (35, _), (36, _), (37, _), (38, _), (39, _), (40, _)], _⟩ (_ :: ψ) rfl rfl ?_
          refine JL_move rfl ?_
          exact JL_nil (JE_stepV rfl ss0))), OblS_V (fun vals ex ψ => (by
          refine JL_normQ ⟨44, [(14, _), (15, _), (16, _), (17, _), (18, _), (19, _), (20, _), (21, _), (22, _), (23, _), (24, _), (25, _), (26, _), (27, _), (28, _), (29, _), (30, _), (31, _), (32, _), (33, _), (34, _), (35, _), (36, _), (37, _), (38, _), (39, _), (40, _)], _⟩ (_ :: ψ) rfl rfl ?_
          refine JL_lss rfl rfl ?_
          rw [decide_eq_false (p := L.getD i 0 < lo) (by omega)]
          exact JL_nil (JE_stepV rfl ss0))), OblS_V (fun vals ex ψ => (by
          refine JL_normQ ⟨44, [(14, _), (15, _), (16, _), (17, _), (18, _), (19, _), (20, _), (21, _), (22, _), (23, _), (24, _), (25, _), (26, _), (27, _), (28, _), (29, _), (30, _), (31, _), (32, _), (33, _), (34, _), (35, _), (36, _), (37, _), (38, _), (39, _), (40, _)], _⟩ (_ :: ψ) rfl rfl ?_
          refine JL_move rfl ?_
          exact JL_nil (JE_stepV rfl ss0))), OblS_V (fun vals ex ψ => (by
          refine JL_normQ ⟨44, [(14, _), (15, _), (16, _), (17, _), (18, _), (19, _), (20, _), (21, _), (22, _), (23, _), (24, _), (25, _), (26, _), (27, _), (28, _), (29, _), (30, _), (31, _), (32, _), (33, _), (34, _), (35, _), (36, _), (37, _), (38, _), (39, _), (40, _)], _⟩ (_ :: ψ) rfl rfl ?_
          refine JL_guard_yes rfl rfl ?_
          refine JL_move rfl ?_
          exact JL_nil (JE_stepV rfl ss0))), OblS_V (fun vals ex ψ => (by
          refine JL_normQ ⟨44, [(14, _), (15, _), (16, _), (17, _), (18, _), (19, _), (20, _), (21, _), (22, _), (23, _), (24, _), (25, _), (26, _), (27, _), (28, _), (29, _), (30, _), (31, _), (32, _), (33, _), (34, _), (35, _), (36, _), (37, _), (38, _), (39, _), (40, _)], _⟩ (_ :: ψ) rfl rfl ?_
          refine JL_guard_yes rfl rfl ?_
          refine JL_move rfl ?_
          exact JL_nil (JE_stepV rfl ss0))), OblS_V (fun vals ex ψ => (by
          refine JL_normQ ⟨44, [(14, _), (15, _), (16, _), (17, _), (18, _), (19, _), (20, _), (21, _), (22, _), (23, _), (24, _), (25, _), (26, _), (27, _), (28, _), (29, _), (30, _), (31, _), (32, _), (33, _), (34, _), (35, _), (36, _), (37, _), (38, _), (39, _), (40, _)], _⟩ (_ :: ψ) rfl rfl ?_
          refine JL_guard_yes rfl rfl ?_
          refine JL_idx i sl28 rfl rfl rfl (by omega) (by first | exact Reads.view (by repeat (first | with_reducible exact mm0 | refine mmS ?_))) (by first | (rw [u32s_length]; omega) | (rw [i64s_length]; omega)) ?_
          exact JL_nil (JE_stepV rfl ss0))), OblS_V (fun vals ex ψ => (by
          refine JL_normQ ⟨44, [(14, _), (15, _), (16, _), (17, _), (18, _), (19, _), (20, _), (21, _), (22, _), (23, _), (24, _), (25, _), (26, _), (27, _), (28, _), (29, _), (30, _), (31, _), (32, _), (33, _), (34, _), (35, _), (36, _), (37, _), (38, _), (39, _), (40, _)], _⟩ (_ :: ψ) rfl rfl ?_
          refine JL_guard_yes rfl rfl ?_
          refine JL_loadE ty3 rfl (by first | exact Reads.view (by repeat (first | with_reducible exact mm0 | refine mmS ?_))) (i64s_get (by omega)) ?_
          exact JL_nil (JE_stepV rfl ss0))), OblS_V (fun vals ex ψ => (by
          refine JL_normQ ⟨44, [(14, _), (15, _), (16, _), (17, _), (18, _), (19, _), (20, _), (21, _), (22, _), (23, _), (24, _), (25, _), (26, _), (27, _), (28, _), (29, _), (30, _), (31, _), (32, _), (33, _), (34, _), (35, _), (36, _), (37, _), (38, _), (39, _), (40, _)], _⟩ (_ :: ψ) rfl rfl ?_
          refine JL_guard_yes rfl rfl ?_
          refine JL_move rfl ?_
          exact JL_nil (JE_stepV rfl ss0))), OblS_V (fun vals ex ψ => (by
          refine JL_normQ ⟨44, [(14, _), (15, _), (16, _), (17, _), (18, _), (19, _), (20, _), (21, _), (22, _), (23, _), (24, _), (25, _), (26, _), (27, _), (28, _), (29, _), (30, _), (31, _), (32, _), (33, _), (34, _), (35, _), (36, _), (37, _), (38, _), (39, _), (40, _)], _⟩ (_ :: ψ) rfl rfl ?_
          refine JL_guard_yes rfl rfl ?_
          refine JL_gtr rfl rfl ?_
          rw [decide_eq_false (p := hi < L.getD i 0) (by omega)]
          exact JL_nil (JE_stepV rfl ss0))), OblS_V (fun vals ex ψ => (by
          refine JL_normQ ⟨44, [(14, _), (15, _), (16, _), (17, _), (18, _), (19, _), (20, _), (21, _), (22, _), (23, _), (24, _), (25, _), (26, _), (27, _), (28, _), (29, _), (30, _), (31, _), (32, _), (33, _), (34, _), (35, _), (36, _), (37, _), (38, _), (39, _), (40, _)], _⟩ (_ :: ψ) rfl rfl ?_
          refine JL_pick_f rfl rfl ?_
          exact JL_nil (JE_stepV rfl ss0))), OblS_V (fun vals ex ψ => (by
          refine JL_normQ ⟨44, [(14, _), (15, _), (16, _), (17, _), (18, _), (19, _), (20, _), (21, _), (22, _), (23, _), (24, _), (25, _), (26, _), (27, _), (28, _), (29, _), (30, _), (31, _), (32, _), (33, _), (34, _), (35, _), (36, _), (37, _), (38, _), (39, _), (40, _)], _⟩ (_ :: ψ) rfl rfl ?_
          refine JL_move rfl ?_
          exact JL_nil (JE_stepV rfl ss0))), OblS_V (fun vals ex ψ => (by
          refine JL_normQ ⟨44, [(14, _), (15, _), (16, _), (17, _), (18, _), (19, _), (20, _), (21, _), (22, _), (23, _), (24, _), (25, _), (26, _), (27, _), (28, _), (29, _), (30, _), (31, _), (32, _), (33, _), (34, _), (35, _), (36, _), (37, _), (38, _), (39, _), (40, _)], _⟩ (_ :: ψ) rfl rfl ?_
          refine JL_guard_yes rfl rfl ?_
          refine JL_move rfl ?_
          exact JL_nil (JE_stepV rfl ss0))), OblS_V (fun vals ex ψ => (by
          refine JL_normQ ⟨44, [(14, _), (15, _), (16, _), (17, _), (18, _), (19, _), (20, _), (21, _), (22, _), (23, _), (24, _), (25, _), (26, _), (27, _), (28, _), (29, _), (30, _), (31, _), (32, _), (33, _), (34, _), (35, _), (36, _), (37, _), (38, _), (39, _), (40, _)], _⟩ (_ :: ψ) rfl rfl ?_
          refine JL_guard_yes rfl rfl ?_
          refine JL_gtr rfl rfl ?_
          rw [decide_eq_true (p := (0 : Int) < (i : Int)) (by omega)]
          exact JL_nil (JE_stepV rfl ss0))), OblS_V (fun vals ex ψ => (by
          refine JL_normQ ⟨44, [(14, _), (15, _), (16, _), (17, _), (18, _), (19, _), (20, _), (21, _), (22, _), (23, _), (24, _), (25, _), (26, _), (27, _), (28, _), (29, _), (30, _), (31, _), (32, _), (33, _), (34, _), (35, _), (36, _), (37, _), (38, _), (39, _), (40, _)], _⟩ (_ :: ψ) rfl rfl ?_
          refine JL_guard_yes rfl rfl ?_
          refine JL_move rfl ?_
          exact JL_nil (JE_stepV rfl ss0))), OblS_V (fun vals ex ψ => (by
          refine JL_normQ ⟨44, [(14, _), (15, _), (16, _), (17, _), (18, _), (19, _), (20, _), (21, _), (22, _), (23, _), (24, _), (25, _), (26, _), (27, _), (28, _), (29, _), (30, _), (31, _), (32, _), (33, _), (34, _), (35, _), (36, _), (37, _), (38, _), (39, _), (40, _)], _⟩ (_ :: ψ) rfl rfl ?_
          refine JL_guard_yes rfl rfl ?_
          refine JL_move rfl ?_
          exact JL_nil (JE_stepV rfl ss0))), OblS_V (fun vals ex ψ => (by
          refine JL_normQ ⟨44, [(14, _), (15, _), (16, _), (17, _), (18, _), (19, _), (20, _), (21, _), (22, _), (23, _), (24, _), (25, _), (26, _), (27, _), (28, _), (29, _), (30, _), (31, _), (32, _), (33, _), (34, _), (35, _), (36, _), (37, _), (38, _), (39, _), (40, _)], _⟩ (_ :: ψ) rfl rfl ?_
          refine JL_guard_yes rfl rfl ?_
          refine JL_move rfl ?_
          exact JL_nil (JE_stepV rfl ss0))), OblS_V (fun vals ex ψ => (by
          refine JL_normQ ⟨44, [(14, _), (15, _), (16, _), (17, _), (18, _), (19, _), (20, _), (21, _), (22, _), (23, _), (24, _), (25, _), (26, _), (27, _), (28, _), (29, _), (30, _), (31, _), (32, _), (33, _), (34, _), (35, _), (36, _), (37, _), (38, _), (39, _), (40, _)], _⟩ (_ :: ψ) rfl rfl ?_
          refine JL_guard_yes rfl rfl ?_
          refine JL_idx i sl28 rfl rfl rfl (by omega) (by first | exact Reads.view (by repeat (first | with_reducible exact mm0 | refine mmS ?_))) (by first | (rw [u32s_length]; omega) | (rw [i64s_length]; omega)) ?_
          exact JL_nil (JE_stepV rfl ss0))), OblS_V (fun vals ex ψ => (by
          refine JL_normQ ⟨44, [(14, _), (15, _), (16, _), (17, _), (18, _), (19, _), (20, _), (21, _), (22, _), (23, _), (24, _), (25, _), (26, _), (27, _), (28, _), (29, _), (30, _), (31, _), (32, _), (33, _), (34, _), (35, _), (36, _), (37, _), (38, _), (39, _), (40, _)], _⟩ (_ :: ψ) rfl rfl ?_
          refine JL_guard_yes rfl rfl ?_
          refine JL_loadE ty3 rfl (by first | exact Reads.view (by repeat (first | with_reducible exact mm0 | refine mmS ?_))) (i64s_get (by omega)) ?_
          exact JL_nil (JE_stepV rfl ss0))), OblS_V (fun vals ex ψ => (by
          refine JL_normQ ⟨44, [(14, _), (15, _), (16, _), (17, _), (18, _), (19, _), (20, _), (21, _), (22, _), (23, _), (24, _), (25, _), (26, _), (27, _), (28, _), (29, _), (30, _), (31, _), (32, _), (33, _), (34, _), (35, _), (36, _), (37, _), (38, _), (39, _), (40, _)], _⟩ (_ :: ψ) rfl rfl ?_
          refine JL_guard_yes rfl rfl ?_
          refine JL_move rfl ?_
          exact JL_nil (JE_stepV rfl ss0))), OblS_V (fun vals ex ψ => (by
          refine JL_normQ ⟨44, [(14, _), (15, _), (16, _), (17, _), (18, _), (19, _), (20, _), (21, _), (22, _), (23, _), (24, _), (25, _), (26, _), (27, _), (28, _), (29, _), (30, _), (31, _), (32, _), (33, _), (34, _), (35, _), (36, _), (37, _), (38, _), (39, _), (40, _)], _⟩ (_ :: ψ) rfl rfl ?_
          refine JL_guard_yes rfl rfl ?_
          refine JL_move rfl ?_
          exact JL_nil (JE_stepV rfl ss0))), OblS_V (fun vals ex ψ => (by
          refine JL_normQ ⟨44, [(14, _), (15, _), (16, _), (17, _), (18, _), (19, _), (20, _), (21, _), (22, _), (23, _), (24, _), (25, _), (26, _), (27, _), (28, _), (29, _), (30, _), (31, _), (32, _), (33, _), (34, _), (35, _), (36, _), (37, _), (38, _), (39, _), (40, _)], _⟩ (_ :: ψ) rfl rfl ?_
          refine JL_guard_yes rfl rfl ?_
          refine JL_sub_to rfl rfl (IntWalk.i64_in _ (by omega)) ?_
          exact JL_nil (JE_stepV rfl ss0))), OblS_V (fun vals ex ψ => (by
          refine JL_normQ ⟨44, [(14, _), (15, _), (16, _), (17, _), (18, _), (19, _), (20, _), (21, _), (22, _), (23, _), (24, _), (25, _), (26, _), (27, _), (28, _), (29, _), (30, _), (31, _), (32, _), (33, _), (34, _), (35, _), (36, _), (37, _), (38, _), (39, _), (40, _)], _⟩ (_ :: ψ) rfl rfl ?_
          refine JL_guard_yes rfl rfl ?_
          refine JL_idx (i - 1) sl28 rfl rfl (by omega) (by omega) (by first | exact Reads.view (by repeat (first | with_reducible exact mm0 | refine mmS ?_))) (by first | (rw [u32s_length]; omega) | (rw [i64s_length]; omega)) ?_
          exact JL_nil (JE_stepV rfl ss0))), OblS_V (fun vals ex ψ => (by
          refine JL_normQ ⟨44, [(14, _), (15, _), (16, _), (17, _), (18, _), (19, _), (20, _), (21, _), (22, _), (23, _), (24, _), (25, _), (26, _), (27, _), (28, _), (29, _), (30, _), (31, _), (32, _), (33, _), (34, _), (35, _), (36, _), (37, _), (38, _), (39, _), (40, _)], _⟩ (_ :: ψ) rfl rfl ?_
          refine JL_guard_yes rfl rfl ?_
          refine JL_loadE ty3 rfl (by first | exact Reads.view (by repeat (first | with_reducible exact mm0 | refine mmS ?_))) (i64s_get (by omega)) ?_
          exact JL_nil (JE_stepV rfl ss0))), trivial⟩ (by kernel_rfl) (fun vals bs => ?_)
      refine JL_normL [_, _, _] ⟨44, [(14, _), (15, _), (16, _), (17, _), (18, _), (19, _), (20, _), (21, _), (22, _), (23, _), (24, _), (25, _), (26, _), (27, _), (28, _), (29, _), (30, _), (31, _), (32, _), (33, _), (34, _), (35, _), (36, _), (37, _), (38, _), (39, _), (40, _)], _⟩ [] [_] rfl rfl rfl rfl ?_
      refine JL_guard_yes rfl rfl ?_
      refine JL_leq rfl rfl ?_
      rw [decide_eq_false (p := L.getD i 0 ≤ L.getD (i - 1) 0) (by omega)]
      refine JL_guard_yes rfl rfl ?_
      refine JL_pick_t rfl rfl ?_
      refine JL_pick_f rfl rfl ?_
      refine JL_done_up 44 [] [_] rfl rfl (by simp only [nrmF]; rfl) rfl rfl ?_
      refine JC_false rfl ?_
      refine JC_skip ?_
      refine JE_block_normal ?_
      refine JE_then ?_
      refine JC_region ?_
      refine JL_move rfl ?_
      refine JL_add_to rfl rfl (IntWalk.i64_in _ (by omega)) ?_
      refine JL_assign rfl ?_
      refine JL_nil_up 44 [] [_] rfl rfl (by simp only [nrmF]; rfl) rfl rfl ?_
      refine JE_nextS (i + 1) (by kernel_rfl) ?_ ?_ (by kernel_rfl) ?_
      · exact ⟨by omega, upNext hj ⟨by omega, by omega⟩⟩
      · first | omega | (dsimp only; omega)
      · exact subset_app subset_nil ss0
  · refine JL_done_up 44 [] [_] rfl rfl (by simp only [nrmF]; rfl) rfl rfl ?_
    refine JC_false rfl ?_
    refine JC_exit ?_
    refine JE_then_exit ?_
    refine JE_nextS_exit ?_
    refine JE_block_exit ?_
    refine JE_then ?_
    refine JC_seq ?_
    refine JC_region ?_
    refine JL_assign rfl ?_
    refine JL_done_up 44 [] [_] rfl rfl (by simp only [nrmF]; rfl) rfl rfl ?_
    refine JC_ret ?_
    refine JE_ret (vs := [_]) [] Try.results48 ⟨rfl, rfl⟩ ?_ ?_
    · rw [decide_eq_true (p := upC L lo hi) (fun j hj2 => hj j (by omega))]; exact ⟨rfl, rfl⟩
    · exact all_nil

theorem rfind_con {ad1 ad2 : Option Addr} {c1 c2 : Nat} {E : List Pr} {R : List Int} (hE : E.length ≤ 1000000) {k : Int} :
    ConF Try.prog 51 [.agg #[.slice ad1 E.length c1, .slice ad2 R.length c2], .int .i64 k] [vCells ad1 (pcells E), vCells ad2 (i64s R)]
      (fun v φo => v = .int .i64 (fndV E k) ∧ φo = []) := by
  refine ConF_of Try.func51 rfl 27 _ rfl rfl ?_
  intro w0
  refine JC_norm ⟨27, [], [_, _, _, _, _, _, _, _, _, _, _, _, _, _, _, _, _, _, _, _, _, _, _, _, _, _, _]⟩ [] [_, _] rfl rfl rfl ?_
  refine JC_seq ?_
  refine JC_region ?_
  refine JL_box rfl rfl (fun b2 => ?_)
  refine JL_assign rfl ?_
  refine JL_done_up 27 [box _ _ [_, _]] [_, _] rfl rfl (by simp only [nrmF]; rfl) rfl rfl ?_
  refine JC_seq ?_
  refine JC_seq ?_
  refine JC_region ?_
  refine JL_assign rfl ?_
  refine JL_done_up 27 [box _ _ [_, _]] [_, _] rfl rfl (by simp only [nrmF]; rfl) rfl rfl ?_
  refine JC_block ?_
  refine JC_loopS ((Nat)) (fun (i : Nat) => i ≤ E.length ∧ ∀ j, j < i → (E.getD j dP).1 ≠ k) (fun (i : Nat) => E.length - i) (fun u (i : Nat) => [none, none, none, none, some (u 4), some (.int .i64 (i : Nat)), some (u 6), some (u 7), some (u 8), some (u 9), some (u 10), some (u 11), some (u 12), some (u 13), some (u 14), some (u 15), some (u 16), some (u 17), some (u 18), some (u 19), some (u 20), some (u 21), some (u 22), some (u 23), some (u 24), some (u 25), some (u 26)]) (fun (i : Nat) => [none]) (fun (i : Nat) => []) (0) (by kernel_rfl) ?_ (by kernel_rfl) ?_ ?_
  · exact ⟨Nat.zero_le _, fun j hj => absurd hj (Nat.not_lt_zero _)⟩
  · exact subset_nil
  intro u i hC
  obtain ⟨hi, hj⟩ := hC
  refine JC_norm ⟨27, [], [_, _, _, _, _, _, _, _, _, _, _, _, _, _, _, _, _, _, _, _, _, _, _, _, _, _, _]⟩ [box _ _ [_, _]] [_, _] rfl rfl rfl ?_
  refine JC_seq ?_
  refine JC_seq ?_
  refine JC_region ?_
  refine JL_move rfl ?_
  refine JL_fieldAddr fo41_0 rfl ?_
  refine JL_load 0 ty39 rfl rfl rfl ?_
  refine JL_len sl39 rfl ?_
  refine JL_lss rfl rfl ?_
  refine JL_split (fun h10 => ?_) (fun h10 => ?_)
  · refine JL_done_up 27 [box _ _ [_, _]] [_, _] rfl rfl (by simp only [nrmF]; rfl) rfl rfl ?_
    refine JC_true rfl ?_
    refine JC_skip ?_
    refine JE_then ?_
    refine JC_seq ?_
    refine JC_block ?_
    refine JC_seq ?_
    refine JC_region ?_
    refine JL_fieldAddr fo41_0 rfl ?_
    refine JL_load 0 ty39 rfl rfl rfl ?_
    refine JL_move rfl ?_
    refine JL_indexAddr i sl39 rfl rfl rfl (by omega) (by first | exact Reads.view (by repeat (first | with_reducible exact mm0 | refine mmS ?_))) (by rw [pcells_length]; omega) ?_
    refine JL_fieldAddrE fo48_0 rfl (by first | exact Reads.view (by repeat (first | with_reducible exact mm0 | refine mmS ?_))) (by rw [pcells_length]; omega) ?_
    refine JL_loadE ty3 rfl (by first | exact Reads.view (by repeat (first | with_reducible exact mm0 | refine mmS ?_))) (pcells_one (l := E) (by omega)).1 ?_
    refine JL_move rfl ?_
    refine JL_eql rfl rfl ?_
    refine JL_split (fun h20 => ?_) (fun h20 => ?_)
    · refine JL_done_up 27 [box _ _ [_, _]] [_, _] rfl rfl (by simp only [nrmF]; rfl) rfl rfl ?_
      refine JC_true rfl ?_
      refine JC_seq ?_
      refine JC_region ?_
      refine JL_fieldAddr fo41_0 rfl ?_
      refine JL_load 0 ty39 rfl rfl rfl ?_
      refine JL_move rfl ?_
      refine JL_indexAddr i sl39 rfl rfl rfl (by omega) (by first | exact Reads.view (by repeat (first | with_reducible exact mm0 | refine mmS ?_))) (by rw [pcells_length]; omega) ?_
      refine JL_fieldAddrE fo48_1 rfl (by first | exact Reads.view (by repeat (first | with_reducible exact mm0 | refine mmS ?_))) (by rw [pcells_length]; omega) ?_
      refine JL_loadE ty3 rfl (by first | exact Reads.view (by repeat (first | with_reducible exact mm0 | refine mmS ?_))) (pcells_one (l := E) (by omega)).2 ?_
      refine JL_assign rfl ?_
      refine JL_done_up 27 [box _ _ [_, _]] [_, _] rfl rfl (by simp only [nrmF]; rfl) rfl rfl ?_
      refine JC_ret ?_
      refine JE_block_ret ?_
      refine JE_then_ret ?_
      refine JE_nextS_ret ?_
      refine JE_block_ret ?_
      refine JE_then_ret ?_
      refine JE_ret (vs := [_]) [] Try.results51 ⟨rfl, rfl⟩ ?_ ?_
      · rw [(fnd_hit (by omega) h20 hj).1]; exact ⟨rfl, rfl⟩
      · exact all_nil
    · refine JL_done_up 27 [box _ _ [_, _]] [_, _] rfl rfl (by simp only [nrmF]; rfl) rfl rfl ?_
      refine JC_false rfl ?_
      refine JC_skip ?_
      refine JE_block_normal ?_
      refine JE_then ?_
      refine JC_region ?_
      refine JL_move rfl ?_
      refine JL_add_to rfl rfl (IntWalk.i64_in _ (by omega)) ?_
      refine JL_assign rfl ?_
      refine JL_nil_up 27 [box _ _ [_, _]] [_, _] rfl rfl (by simp only [nrmF]; rfl) rfl rfl ?_
      refine JE_nextS (i + 1) (by kernel_rfl) ?_ ?_ (by kernel_rfl) ?_
      · exact ⟨by omega, fun j hj2 => by
        by_cases h : j = i
        · subst h; exact h20
        · exact hj j (by omega)⟩
      · first | omega | (dsimp only; omega)
      · exact subset_app subset_nil ss0
  · refine JL_done_up 27 [box _ _ [_, _]] [_, _] rfl rfl (by simp only [nrmF]; rfl) rfl rfl ?_
    refine JC_false rfl ?_
    refine JC_exit ?_
    refine JE_then_exit ?_
    refine JE_nextS_exit ?_
    refine JE_block_exit ?_
    refine JE_then ?_
    refine JC_seq ?_
    refine JC_region ?_
    refine JL_assign rfl ?_
    refine JL_done_up 27 [box _ _ [_, _]] [_, _] rfl rfl (by simp only [nrmF]; rfl) rfl rfl ?_
    refine JC_ret ?_
    refine JE_ret (vs := [_]) [] Try.results51 ⟨rfl, rfl⟩ ?_ ?_
    · rw [(fnd_miss (fun j h => hj j (by omega))).1]; exact ⟨rfl, rfl⟩
    · exact all_nil

theorem owner_con {ad1 ad2 : Option Addr} {c1 c2 : Nat} {E : List Pr} {R : List Int} (hE : E.length ≤ 1000000) {k : Int} :
    ConF Try.prog 50 [.agg #[.slice ad1 E.length c1, .slice ad2 R.length c2], .int .i64 k] [vCells ad1 (pcells E), vCells ad2 (i64s R)]
      (fun v φo => v = .int .i64 (ownV E k) ∧ φo = []) := by
  refine ConF_of Try.func50 rfl 27 _ rfl rfl ?_
  intro w0
  refine JC_norm ⟨27, [], [_, _, _, _, _, _, _, _, _, _, _, _, _, _, _, _, _, _, _, _, _, _, _, _, _, _, _]⟩ [] [_, _] rfl rfl rfl ?_
  refine JC_seq ?_
  refine JC_region ?_
  refine JL_box rfl rfl (fun b2 => ?_)
  refine JL_assign rfl ?_
  refine JL_done_up 27 [box _ _ [_, _]] [_, _] rfl rfl (by simp only [nrmF]; rfl) rfl rfl ?_
  refine JC_seq ?_
  refine JC_seq ?_
  refine JC_region ?_
  refine JL_assign rfl ?_
  refine JL_done_up 27 [box _ _ [_, _]] [_, _] rfl rfl (by simp only [nrmF]; rfl) rfl rfl ?_
  refine JC_block ?_
  refine JC_loopS ((Nat)) (fun (i : Nat) => i ≤ E.length ∧ ∀ j, j < i → (E.getD j dP).2 ≠ k) (fun (i : Nat) => E.length - i) (fun u (i : Nat) => [none, none, none, none, some (u 4), some (.int .i64 (i : Nat)), some (u 6), some (u 7), some (u 8), some (u 9), some (u 10), some (u 11), some (u 12), some (u 13), some (u 14), some (u 15), some (u 16), some (u 17), some (u 18), some (u 19), some (u 20), some (u 21), some (u 22), some (u 23), some (u 24), some (u 25), some (u 26)]) (fun (i : Nat) => [none]) (fun (i : Nat) => []) (0) (by kernel_rfl) ?_ (by kernel_rfl) ?_ ?_
  · exact ⟨Nat.zero_le _, fun j hj => absurd hj (Nat.not_lt_zero _)⟩
  · exact subset_nil
  intro u i hC
  obtain ⟨hi, hj⟩ := hC
  refine JC_norm ⟨27, [], [_, _, _, _, _, _, _, _, _, _, _, _, _, _, _, _, _, _, _, _, _, _, _, _, _, _, _]⟩ [box _ _ [_, _]] [_, _] rfl rfl rfl ?_
  refine JC_seq ?_
  refine JC_seq ?_
  refine JC_region ?_
  refine JL_move rfl ?_
  refine JL_fieldAddr fo41_0 rfl ?_
  refine JL_load 0 ty39 rfl rfl rfl ?_
  refine JL_len sl39 rfl ?_
  refine JL_lss rfl rfl ?_
  refine JL_split (fun h10 => ?_) (fun h10 => ?_)
  · refine JL_done_up 27 [box _ _ [_, _]] [_, _] rfl rfl (by simp only [nrmF]; rfl) rfl rfl ?_
    refine JC_true rfl ?_
    refine JC_skip ?_
    refine JE_then ?_
    refine JC_seq ?_
    refine JC_block ?_
    refine JC_seq ?_
    refine JC_region ?_
    refine JL_fieldAddr fo41_0 rfl ?_
    refine JL_load 0 ty39 rfl rfl rfl ?_
    refine JL_move rfl ?_
    refine JL_indexAddr i sl39 rfl rfl rfl (by omega) (by first | exact Reads.view (by repeat (first | with_reducible exact mm0 | refine mmS ?_))) (by rw [pcells_length]; omega) ?_
    refine JL_fieldAddrE fo48_1 rfl (by first | exact Reads.view (by repeat (first | with_reducible exact mm0 | refine mmS ?_))) (by rw [pcells_length]; omega) ?_
    refine JL_loadE ty3 rfl (by first | exact Reads.view (by repeat (first | with_reducible exact mm0 | refine mmS ?_))) (pcells_one (l := E) (by omega)).2 ?_
    refine JL_move rfl ?_
    refine JL_eql rfl rfl ?_
    refine JL_split (fun h20 => ?_) (fun h20 => ?_)
    · refine JL_done_up 27 [box _ _ [_, _]] [_, _] rfl rfl (by simp only [nrmF]; rfl) rfl rfl ?_
      refine JC_true rfl ?_
      refine JC_seq ?_
      refine JC_region ?_
      refine JL_fieldAddr fo41_0 rfl ?_
      refine JL_load 0 ty39 rfl rfl rfl ?_
      refine JL_move rfl ?_
      refine JL_indexAddr i sl39 rfl rfl rfl (by omega) (by first | exact Reads.view (by repeat (first | with_reducible exact mm0 | refine mmS ?_))) (by rw [pcells_length]; omega) ?_
      refine JL_fieldAddrE fo48_0 rfl (by first | exact Reads.view (by repeat (first | with_reducible exact mm0 | refine mmS ?_))) (by rw [pcells_length]; omega) ?_
      refine JL_loadE ty3 rfl (by first | exact Reads.view (by repeat (first | with_reducible exact mm0 | refine mmS ?_))) (pcells_one (l := E) (by omega)).1 ?_
      refine JL_assign rfl ?_
      refine JL_done_up 27 [box _ _ [_, _]] [_, _] rfl rfl (by simp only [nrmF]; rfl) rfl rfl ?_
      refine JC_ret ?_
      refine JE_block_ret ?_
      refine JE_then_ret ?_
      refine JE_nextS_ret ?_
      refine JE_block_ret ?_
      refine JE_then_ret ?_
      refine JE_ret (vs := [_]) [] Try.results50 ⟨rfl, rfl⟩ ?_ ?_
      · rw [own_hit (by omega) h20 hj]; exact ⟨rfl, rfl⟩
      · exact all_nil
    · refine JL_done_up 27 [box _ _ [_, _]] [_, _] rfl rfl (by simp only [nrmF]; rfl) rfl rfl ?_
      refine JC_false rfl ?_
      refine JC_skip ?_
      refine JE_block_normal ?_
      refine JE_then ?_
      refine JC_region ?_
      refine JL_move rfl ?_
      refine JL_add_to rfl rfl (IntWalk.i64_in _ (by omega)) ?_
      refine JL_assign rfl ?_
      refine JL_nil_up 27 [box _ _ [_, _]] [_, _] rfl rfl (by simp only [nrmF]; rfl) rfl rfl ?_
      refine JE_nextS (i + 1) (by kernel_rfl) ?_ ?_ (by kernel_rfl) ?_
      · exact ⟨by omega, fun j hj2 => by
        by_cases h : j = i
        · subst h; exact h20
        · exact hj j (by omega)⟩
      · first | omega | (dsimp only; omega)
      · exact subset_app subset_nil ss0
  · refine JL_done_up 27 [box _ _ [_, _]] [_, _] rfl rfl (by simp only [nrmF]; rfl) rfl rfl ?_
    refine JC_false rfl ?_
    refine JC_exit ?_
    refine JE_then_exit ?_
    refine JE_nextS_exit ?_
    refine JE_block_exit ?_
    refine JE_then ?_
    refine JC_seq ?_
    refine JC_region ?_
    refine JL_assign rfl ?_
    refine JL_done_up 27 [box _ _ [_, _]] [_, _] rfl rfl (by simp only [nrmF]; rfl) rfl rfl ?_
    refine JC_ret ?_
    refine JE_ret (vs := [_]) [] Try.results50 ⟨rfl, rfl⟩ ?_ ?_
    · rw [own_miss (fun j h => hj j (by omega))]; exact ⟨rfl, rfl⟩
    · exact all_nil

set_option maxHeartbeats 2000000 in
theorem redv_con {ad1 ad2 : Option Addr} {c1 c2 : Nat} {E : List Pr} {R : List Int} (hE : E.length ≤ 1000000) :
    ConF Try.prog 33 [.agg #[.slice ad1 E.length c1, .slice ad2 R.length c2]] [vCells ad1 (pcells E), vCells ad2 (i64s R)]
      (fun v φo => v = .bool (decide (edC E R)) ∧ φo = []) := by
  refine ConF_of Try.func33 rfl 57 _ rfl rfl ?_
  intro w0
  refine JC_norm ⟨57, [], [_, _, _, _, _, _, _, _, _, _, _, _, _, _, _, _, _, _, _, _, _, _, _, _, _, _, _, _, _, _, _, _, _, _, _, _, _, _, _, _, _, _, _, _, _, _, _, _, _, _, _, _, _, _, _, _, _]⟩ [] [_, _] rfl rfl rfl ?_
  refine JC_seq ?_
  refine JC_region ?_
  refine JL_box rfl rfl (fun b1 => ?_)
  refine JL_assign rfl ?_
  refine JL_done_up 57 [box _ _ [_, _]] [_, _] rfl rfl (by simp only [nrmF]; rfl) rfl rfl ?_
  refine JC_seq ?_
  refine JC_seq ?_
  refine JC_region ?_
  refine JL_fieldAddr fo41_0 rfl ?_
  refine JL_load 0 ty39 rfl rfl rfl ?_
  refine JL_callF' (Asks.cons (holds_of_mem (by repeat (first | with_reducible exact mm0 | refine mmS ?_))) Asks.nil) (ordered_con (most := 64) (by omega)) rfl ca47 ⟨rfl, rfl, rfl⟩ ?_
  rintro _ _ ⟨rfl, rfl⟩
  refine JL_split (fun h7 => ?_) (fun h7 => ?_)
  · refine JL_not rfl ?_
    rw [Bool.not_true]
    refine JL_move rfl ?_
    refine JL_guard_yes rfl rfl ?_
    refine JL_fieldAddr fo41_1 rfl ?_
    refine JL_guard_yes rfl rfl ?_
    refine JL_load 0 ty28 rfl rfl rfl ?_
    refine JL_guard_yes rfl rfl ?_
    refine JL_len sl28 rfl ?_
    refine JL_guard_yes rfl rfl ?_
    refine JL_gtr rfl rfl ?_
    refine JL_split (fun h13 => ?_) (fun h13 => ?_)
    · refine JL_pick_f rfl rfl ?_
      refine JL_move rfl ?_
      refine JL_guard_no rfl rfl ?_
      refine JL_guard_no rfl rfl ?_
      refine JL_guard_no rfl rfl ?_
      refine JL_guard_no rfl rfl ?_
      refine JL_pick_t rfl rfl ?_
      refine JL_done_up 57 [box _ _ [_, _]] [_, _] rfl rfl (by simp only [nrmF]; rfl) rfl rfl ?_
      refine JC_true rfl ?_
      refine JC_seq ?_
      refine JC_region ?_
      refine JL_assign rfl ?_
      refine JL_done_up 57 [box _ _ [_, _]] [_, _] rfl rfl (by simp only [nrmF]; rfl) rfl rfl ?_
      refine JC_ret ?_
      refine JE_then_ret ?_
      refine JE_ret (vs := [_]) [] Try.results33 ⟨rfl, rfl⟩ ?_ ?_
      · rw [decide_eq_false (p := edC E R) (fun h => absurd (ed_parts h).2.1 (by omega))]; exact ⟨rfl, rfl⟩
      · exact all_nil
    · refine JL_pick_f rfl rfl ?_
      refine JL_move rfl ?_
      refine JL_guard_yes rfl rfl ?_
      refine JL_fieldAddr fo41_1 rfl ?_
      refine JL_guard_yes rfl rfl ?_
      refine JL_load 0 ty28 rfl rfl rfl ?_
      refine JL_guard_yes rfl rfl ?_
      refine JL_callF' (Asks.cons (holds_of_mem (by repeat (first | with_reducible exact mm0 | refine mmS ?_))) Asks.nil) (bup_con (lo := 1) (hi := 999) (by omega)) rfl ca48 ⟨rfl, rfl, rfl, rfl⟩ ?_
      rintro _ _ ⟨rfl, rfl⟩
      refine JL_split (fun h18 => ?_) (fun h18 => ?_)
      · refine JL_guard_yes rfl rfl ?_
        refine JL_not rfl ?_
        rw [Bool.not_true]
        refine JL_pick_f rfl rfl ?_
        refine JL_done_up 57 [box _ _ [_, _]] [_, _] rfl rfl (by simp only [nrmF]; rfl) rfl rfl ?_
        refine JC_false rfl ?_
        refine JC_skip ?_
        refine JE_then ?_
        refine JC_seq ?_
        refine JC_seq ?_
        refine JC_region ?_
        refine JL_assign rfl ?_
        refine JL_done_up 57 [box _ _ [_, _]] [_, _] rfl rfl (by simp only [nrmF]; rfl) rfl rfl ?_
        refine JC_block ?_
        refine JC_loopS ((Nat)) (fun (i : Nat) => i ≤ E.length ∧ ∀ j, j < i → rowOk E R j) (fun (i : Nat) => E.length - i) (fun u (i : Nat) => [none, none, some (u 2), some (.int .i64 (i : Nat)), some (u 4), none, none, none, none, none, none, none, none, none, none, none, none, none, none, none, none, some (u 21), some (u 22), some (u 23), some (u 24), some (u 25), some (u 26), some (u 27), some (u 28), some (u 29), some (u 30), some (u 31), some (u 32), some (u 33), some (u 34), some (u 35), some (u 36), some (u 37), some (u 38), some (u 39), some (u 40), some (u 41), some (u 42), some (u 43), some (u 44), some (u 45), some (u 46), some (u 47), some (u 48), some (u 49), some (u 50), some (u 51), some (u 52), some (u 53), some (u 54), some (u 55), some (u 56)]) (fun (i : Nat) => [none]) (fun (i : Nat) => []) (0) (by kernel_rfl) ?_ (by kernel_rfl) ?_ ?_
        · exact ⟨Nat.zero_le _, fun j hj => absurd hj (Nat.not_lt_zero _)⟩
        · exact subset_nil
        intro u i hC
        obtain ⟨hi, hj⟩ := hC
        refine JC_norm ⟨57, [], [_, _, _, _, _, _, _, _, _, _, _, _, _, _, _, _, _, _, _, _, _, _, _, _, _, _, _, _, _, _, _, _, _, _, _, _, _, _, _, _, _, _, _, _, _, _, _, _, _, _, _, _, _, _, _, _, _]⟩ [box _ _ [_, _]] [_, _] rfl rfl rfl ?_
        refine JC_seq ?_
        refine JC_seq ?_
        refine JC_region ?_
        refine JL_move rfl ?_
        refine JL_fieldAddr fo41_0 rfl ?_
        refine JL_load 0 ty39 rfl rfl rfl ?_
        refine JL_len sl39 rfl ?_
        refine JL_lss rfl rfl ?_
        refine JL_split (fun h25 => ?_) (fun h25 => ?_)
        · refine JL_done_up 57 [box _ _ [_, _]] [_, _] rfl rfl (by simp only [nrmF]; rfl) rfl rfl ?_
          refine JC_true rfl ?_
          refine JC_skip ?_
          refine JE_then ?_
          refine JC_seq ?_
          refine JC_block ?_
          refine JC_seq ?_
          refine JC_region ?_
          refine JL_fieldAddr fo41_0 rfl ?_
          refine JL_load 0 ty39 rfl rfl rfl ?_
          refine JL_move rfl ?_
          refine JL_indexAddr i sl39 rfl rfl rfl (by omega) (by first | exact Reads.view (by repeat (first | with_reducible exact mm0 | refine mmS ?_))) (by rw [pcells_length]; omega) ?_
          refine JL_loadEA (vs := [_, _]) ty48 (Nat.zero_lt_succ _) rfl (by first | exact Reads.view (by repeat (first | with_reducible exact mm0 | refine mmS ?_))) (pcells_getA (l := E) (by omega)) ?_
          refine JL_alloc z48 (fun b4 => ?_)
          refine JL_store (vs := [_, _]) 1 ty48 rfl rfl rfl (AllOne.cons rfl (AllOne.cons rfl AllOne.nil)) rfl (Nat.le_of_ble_eq_true rfl) ?_
          refine JL_done_up 57 [box _ _ [_, _], box _ _ [_, _]] [_, _] rfl rfl (by simp only [nrmF]; rfl) rfl rfl ?_
          refine JC_seq ?_
          refine JC_seq ?_
          refine JC_region ?_
          refine JL_fieldAddr fo48_0 rfl ?_
          refine JL_load 1 ty3 rfl rfl rfl ?_
          refine JL_callF' Asks.nil (bin_con (n := (E.getD i dP).1) (lo := 1) (hi := 9999)) rfl ca49 ⟨rfl, rfl, rfl, rfl⟩ ?_
          rintro _ _ ⟨rfl, rfl⟩
          refine JL_split (fun h35 => ?_) (fun h35 => ?_)
          · refine JL_not rfl ?_
            rw [Bool.not_true]
            refine JL_move rfl ?_
            refine JL_guard_yes rfl rfl ?_
            refine JL_fieldAddr fo48_1 rfl ?_
            refine JL_guard_yes rfl rfl ?_
            refine JL_load 1 ty3 rfl rfl rfl ?_
            refine JL_guard_yes rfl rfl ?_
            refine JL_callF' Asks.nil (bin_con (n := (E.getD i dP).2) (lo := 1) (hi := 999)) rfl ca49 ⟨rfl, rfl, rfl, rfl⟩ ?_
            rintro _ _ ⟨rfl, rfl⟩
            refine JL_split (fun h40 => ?_) (fun h40 => ?_)
            · refine JL_guard_yes rfl rfl ?_
              refine JL_not rfl ?_
              rw [Bool.not_true]
              refine JL_pick_f rfl rfl ?_
              refine JL_move rfl ?_
              refine JL_guard_yes rfl rfl ?_
              refine JL_fieldAddr fo41_1 rfl ?_
              refine JL_guard_yes rfl rfl ?_
              refine JL_load 0 ty28 rfl rfl rfl ?_
              refine JL_guard_yes rfl rfl ?_
              refine JL_fieldAddr fo48_1 rfl ?_
              refine JL_guard_yes rfl rfl ?_
              refine JL_load 1 ty3 rfl rfl rfl ?_
              refine JL_guard_yes rfl rfl ?_
              refine JL_callF' (Asks.cons (holds_of_mem (by repeat (first | with_reducible exact mm0 | refine mmS ?_))) Asks.nil) (has_con (L := R) (x := (E.getD i dP).2) (by omega)) rfl ca30 ⟨rfl, rfl, rfl⟩ ?_
              rintro _ _ ⟨rfl, rfl⟩
              refine JL_split (fun h48 => ?_) (fun h48 => ?_)
              · refine JL_pick_f rfl rfl ?_
                refine JL_done_up 57 [box _ _ [_, _], box _ _ [_, _]] [_, _] rfl rfl (by simp only [nrmF]; rfl) rfl rfl ?_
                refine JC_true rfl ?_
                refine JC_seq ?_
                refine JC_region ?_
                refine JL_assign rfl ?_
                refine JL_done_up 57 [box _ _ [_, _], box _ _ [_, _]] [_, _] rfl rfl (by simp only [nrmF]; rfl) rfl rfl ?_
                refine JC_ret ?_
                refine JE_then_ret ?_
                refine JE_block_ret ?_
                refine JE_then_ret ?_
                refine JE_nextS_ret ?_
                refine JE_block_ret ?_
                refine JE_then_ret ?_
                refine JE_ret (vs := [_]) [] Try.results33 ⟨rfl, rfl⟩ ?_ ?_
                · rw [decide_eq_false (p := edC E R) (fun h => ((ed_parts h).2.2.2 i (by omega)).2.2.1 h48)]; exact ⟨rfl, rfl⟩
                · exact all_nil
              · refine JL_pick_f rfl rfl ?_
                refine JL_done_up 57 [box _ _ [_, _], box _ _ [_, _]] [_, _] rfl rfl (by simp only [nrmF]; rfl) rfl rfl ?_
                refine JC_false rfl ?_
                refine JC_skip ?_
                refine JE_then ?_
                refine JC_seq ?_
                refine JC_drawT mixed 6 [spV 50 [] _, spV 51 [] _, spV 52 [1] _, spC 53 [0, 2] _, spV 54 [] _, spV 55 [4] _] ⟨OblS_V (fun vals ex ψ => (by
                    refine JL_normQ ⟨57, [(50, _), (51, _), (52, _), (53, _), (54, _), (55, _)], _⟩ (_ :: _ :: ψ) rfl rfl ?_
                    refine JL_loadA (vs := [_, _]) 0 ty41 rfl rfl ⟨rfl, rfl, trivial⟩ ?_
                    exact JL_nil (JE_stepV rfl ss0))), OblS_V (fun vals ex ψ => (by
                    refine JL_normQ ⟨57, [(50, _), (51, _), (52, _), (53, _), (54, _), (55, _)], _⟩ (_ :: _ :: ψ) rfl rfl ?_
                    refine JL_fieldAddr fo48_1 rfl ?_
                    exact JL_nil (JE_stepV rfl ss0))), OblS_V (fun vals ex ψ => (by
                    refine JL_normQ ⟨57, [(50, _), (51, _), (52, _), (53, _), (54, _), (55, _)], _⟩ (_ :: _ :: ψ) rfl rfl ?_
                    refine JL_load 1 ty3 rfl rfl rfl ?_
                    exact JL_nil (JE_stepV rfl ss0))), OblS_C (fun vals ex ψ => (by
                    refine JL_normQ ⟨57, [(50, _), (51, _), (52, _), (53, _), (54, _), (55, _)], _⟩ (_ :: _ :: ψ) rfl rfl ?_
                    refine JL_callF' (Asks.cons (holds_of_mem (by repeat (first | with_reducible exact mm0 | refine mmS ?_))) (Asks.cons (holds_of_mem (by repeat (first | with_reducible exact mm0 | refine mmS ?_))) Asks.nil)) (owner_con (k := (E.getD i dP).2) (by omega)) rfl ca50 ⟨rfl, rfl, rfl⟩ ?_
                    exact fun v φo hP => JL_nil (JE_stepC φo rfl hP (fun p hp => mapB_l hp) (fun p hp => mapB_r (ss0 p hp))))), OblS_V (fun vals ex ψ => (by
                    refine JL_normQ ⟨57, [(50, _), (51, _), (52, _), (53, _), (54, _), (55, _)], _⟩ (_ :: _ :: ψ) rfl rfl ?_
                    refine JL_fieldAddr fo48_0 rfl ?_
                    exact JL_nil (JE_stepV rfl ss0))), OblS_V (fun vals ex ψ => (by
                    refine JL_normQ ⟨57, [(50, _), (51, _), (52, _), (53, _), (54, _), (55, _)], _⟩ (_ :: _ :: ψ) rfl rfl ?_
                    refine JL_load 1 ty3 rfl rfl rfl ?_
                    exact JL_nil (JE_stepV rfl ss0))), trivial⟩ (by kernel_rfl) (fun vals bs => ?_)
                refine JL_normL [_] ⟨57, [(50, _), (51, _), (52, _), (53, _), (54, _), (55, _)], _⟩ [box _ _ [_, _], box _ _ [_, _]] [_, _, _] rfl rfl rfl rfl ?_
                generalize vals (0 + 1 + 1 + 1) = x53
                refine JL_usePost mm0 (fun φo hP => ?_)
                obtain ⟨rfl, rfl⟩ := hP
                refine JL_norm _ [box _ _ [_, _], box _ _ [_, _]] [_, _, _] rfl rfl rfl ?_
                refine JL_neq rfl rfl ?_
                refine JL_split (fun h56 => ?_) (fun h56 => ?_)
                · refine JL_done_up 57 [box _ _ [_, _], box _ _ [_, _]] [_, _, _] rfl rfl (by simp only [nrmF]; rfl) rfl rfl ?_
                  refine JC_true rfl ?_
                  refine JC_seq ?_
                  refine JC_region ?_
                  refine JL_assign rfl ?_
                  refine JL_done_up 57 [box _ _ [_, _], box _ _ [_, _]] [_, _, _] rfl rfl (by simp only [nrmF]; rfl) rfl rfl ?_
                  refine JC_ret ?_
                  refine JE_block_ret ?_
                  refine JE_then_ret ?_
                  refine JE_nextS_ret ?_
                  refine JE_block_ret ?_
                  refine JE_then_ret ?_
                  refine JE_ret (vs := [_]) [] Try.results33 ⟨rfl, rfl⟩ ?_ ?_
                  · rw [decide_eq_false (p := edC E R) (fun h => h56 ((ed_parts h).2.2.2 i (by omega)).2.2.2)]; exact ⟨rfl, rfl⟩
                  · exact all_nil
                · refine JL_done_up 57 [box _ _ [_, _], box _ _ [_, _]] [_, _, _] rfl rfl (by simp only [nrmF]; rfl) rfl rfl ?_
                  refine JC_false rfl ?_
                  refine JC_skip ?_
                  refine JE_block_normal ?_
                  refine JE_then ?_
                  refine JC_region ?_
                  refine JL_move rfl ?_
                  refine JL_add_to rfl rfl (IntWalk.i64_in _ (by omega)) ?_
                  refine JL_assign rfl ?_
                  refine JL_nil_up 57 [box _ _ [_, _], box _ _ [_, _]] [_, _, _] rfl rfl (by simp only [nrmF]; rfl) rfl rfl ?_
                  refine JE_dropAt 1 ?_
                  refine JE_norm _ [box _ _ [_, _]] [_, _, _] rfl rfl rfl ?_
                  refine JE_nextS (i + 1) (by kernel_rfl) ?_ ?_ (by kernel_rfl) ?_
                  · exact ⟨by omega, rowNext hj ⟨h35, h40, h48, by omega⟩⟩
                  · first | omega | (dsimp only; omega)
                  · exact subset_app subset_nil (ssS ss0)
            · refine JL_guard_yes rfl rfl ?_
              refine JL_not rfl ?_
              rw [Bool.not_false]
              refine JL_pick_f rfl rfl ?_
              refine JL_move rfl ?_
              refine JL_guard_no rfl rfl ?_
              refine JL_guard_no rfl rfl ?_
              refine JL_guard_no rfl rfl ?_
              refine JL_guard_no rfl rfl ?_
              refine JL_guard_no rfl rfl ?_
              refine JL_pick_t rfl rfl ?_
              refine JL_done_up 57 [box _ _ [_, _], box _ _ [_, _]] [_, _] rfl rfl (by simp only [nrmF]; rfl) rfl rfl ?_
              refine JC_true rfl ?_
              refine JC_seq ?_
              refine JC_region ?_
              refine JL_assign rfl ?_
              refine JL_done_up 57 [box _ _ [_, _], box _ _ [_, _]] [_, _] rfl rfl (by simp only [nrmF]; rfl) rfl rfl ?_
              refine JC_ret ?_
              refine JE_then_ret ?_
              refine JE_block_ret ?_
              refine JE_then_ret ?_
              refine JE_nextS_ret ?_
              refine JE_block_ret ?_
              refine JE_then_ret ?_
              refine JE_ret (vs := [_]) [] Try.results33 ⟨rfl, rfl⟩ ?_ ?_
              · rw [decide_eq_false (p := edC E R) (fun h => h40 ((ed_parts h).2.2.2 i (by omega)).2.1)]; exact ⟨rfl, rfl⟩
              · exact all_nil
          · refine JL_not rfl ?_
            rw [Bool.not_false]
            refine JL_move rfl ?_
            refine JL_guard_no rfl rfl ?_
            refine JL_guard_no rfl rfl ?_
            refine JL_guard_no rfl rfl ?_
            refine JL_guard_no rfl rfl ?_
            refine JL_pick_t rfl rfl ?_
            refine JL_move rfl ?_
            refine JL_guard_no rfl rfl ?_
            refine JL_guard_no rfl rfl ?_
            refine JL_guard_no rfl rfl ?_
            refine JL_guard_no rfl rfl ?_
            refine JL_guard_no rfl rfl ?_
            refine JL_pick_t rfl rfl ?_
            refine JL_done_up 57 [box _ _ [_, _], box _ _ [_, _]] [_, _] rfl rfl (by simp only [nrmF]; rfl) rfl rfl ?_
            refine JC_true rfl ?_
            refine JC_seq ?_
            refine JC_region ?_
            refine JL_assign rfl ?_
            refine JL_done_up 57 [box _ _ [_, _], box _ _ [_, _]] [_, _] rfl rfl (by simp only [nrmF]; rfl) rfl rfl ?_
            refine JC_ret ?_
            refine JE_then_ret ?_
            refine JE_block_ret ?_
            refine JE_then_ret ?_
            refine JE_nextS_ret ?_
            refine JE_block_ret ?_
            refine JE_then_ret ?_
            refine JE_ret (vs := [_]) [] Try.results33 ⟨rfl, rfl⟩ ?_ ?_
            · rw [decide_eq_false (p := edC E R) (fun h => h35 ((ed_parts h).2.2.2 i (by omega)).1)]; exact ⟨rfl, rfl⟩
            · exact all_nil
        · refine JL_done_up 57 [box _ _ [_, _]] [_, _] rfl rfl (by simp only [nrmF]; rfl) rfl rfl ?_
          refine JC_false rfl ?_
          refine JC_exit ?_
          refine JE_then_exit ?_
          refine JE_nextS_exit ?_
          refine JE_block_exit ?_
          refine JE_then ?_
          refine JC_seq ?_
          refine JC_region ?_
          refine JL_assign rfl ?_
          refine JL_done_up 57 [box _ _ [_, _]] [_, _] rfl rfl (by simp only [nrmF]; rfl) rfl rfl ?_
          refine JC_ret ?_
          refine JE_ret (vs := [_]) [] Try.results33 ⟨rfl, rfl⟩ ?_ ?_
          · rw [decide_eq_true (p := edC E R) (ed_ref h7 (by omega) h18 (fun j h => hj j (by omega)))]; exact ⟨rfl, rfl⟩
          · exact all_nil
      · refine JL_guard_yes rfl rfl ?_
        refine JL_not rfl ?_
        rw [Bool.not_false]
        refine JL_pick_f rfl rfl ?_
        refine JL_done_up 57 [box _ _ [_, _]] [_, _] rfl rfl (by simp only [nrmF]; rfl) rfl rfl ?_
        refine JC_true rfl ?_
        refine JC_seq ?_
        refine JC_region ?_
        refine JL_assign rfl ?_
        refine JL_done_up 57 [box _ _ [_, _]] [_, _] rfl rfl (by simp only [nrmF]; rfl) rfl rfl ?_
        refine JC_ret ?_
        refine JE_then_ret ?_
        refine JE_ret (vs := [_]) [] Try.results33 ⟨rfl, rfl⟩ ?_ ?_
        · rw [decide_eq_false (p := edC E R) (fun h => h18 (ed_parts h).2.2.1)]; exact ⟨rfl, rfl⟩
        · exact all_nil
  · refine JL_not rfl ?_
    rw [Bool.not_false]
    refine JL_move rfl ?_
    refine JL_guard_no rfl rfl ?_
    refine JL_guard_no rfl rfl ?_
    refine JL_guard_no rfl rfl ?_
    refine JL_guard_no rfl rfl ?_
    refine JL_pick_t rfl rfl ?_
    refine JL_move rfl ?_
    refine JL_guard_no rfl rfl ?_
    refine JL_guard_no rfl rfl ?_
    refine JL_guard_no rfl rfl ?_
    refine JL_guard_no rfl rfl ?_
    refine JL_pick_t rfl rfl ?_
    refine JL_done_up 57 [box _ _ [_, _]] [_, _] rfl rfl (by simp only [nrmF]; rfl) rfl rfl ?_
    refine JC_true rfl ?_
    refine JC_seq ?_
    refine JC_region ?_
    refine JL_assign rfl ?_
    refine JL_done_up 57 [box _ _ [_, _]] [_, _] rfl rfl (by simp only [nrmF]; rfl) rfl rfl ?_
    refine JC_ret ?_
    refine JE_then_ret ?_
    refine JE_ret (vs := [_]) [] Try.results33 ⟨rfl, rfl⟩ ?_ ?_
    · rw [decide_eq_false (p := edC E R) (fun h => h7 (ed_parts h).1)]; exact ⟨rfl, rfl⟩
    · exact all_nil

theorem rnumber_con {ad1 ad2 : Option Addr} {c1 c2 : Nat} {E : List Pr} {R : List Int} (hE : E.length ≤ 1000000) {k : Int} :
    ConF Try.prog 35 [.agg #[.slice ad1 E.length c1, .slice ad2 R.length c2], .int .i64 k] [vCells ad1 (pcells E), vCells ad2 (i64s R)]
      (fun v φo => v = .tuple #[.int .i64 (numV E R k), .int .i64 (numE E R k)] ∧ φo = []) := by
  refine ConF_of Try.func35 rfl 16 _ rfl rfl ?_
  intro w0
  refine JC_norm ⟨16, [], [_, _, _, _, _, _, _, _, _, _, _, _, _, _, _, _]⟩ [] [_, _] rfl rfl rfl ?_
  refine JC_seq ?_
  refine JC_region ?_
  refine JL_box rfl rfl (fun b2 => ?_)
  refine JL_assign rfl ?_
  refine JL_assign rfl ?_
  refine JL_done_up 16 [box _ _ [_, _]] [_, _] rfl rfl (by simp only [nrmF]; rfl) rfl rfl ?_
  refine JC_seq ?_
  refine JC_seq ?_
  refine JC_region ?_
  refine JL_loadA (vs := [_, _]) 0 ty41 rfl rfl ⟨rfl, rfl, trivial⟩ ?_
  refine JL_callF' (Asks.cons (holds_of_mem (by repeat (first | with_reducible exact mm0 | refine mmS ?_))) (Asks.cons (holds_of_mem (by repeat (first | with_reducible exact mm0 | refine mmS ?_))) Asks.nil)) (redv_con (by omega)) rfl ca33 ⟨rfl, rfl⟩ ?_
  rintro _ _ ⟨rfl, rfl⟩
  refine JL_split (fun h8 => ?_) (fun h8 => ?_)
  · refine JL_not rfl ?_
    rw [Bool.not_true]
    refine JL_done_up 16 [box _ _ [_, _]] [_, _] rfl rfl (by simp only [nrmF]; rfl) rfl rfl ?_
    refine JC_false rfl ?_
    refine JC_skip ?_
    refine JE_then ?_
    refine JC_seq ?_
    refine JC_region ?_
    refine JL_loadA (vs := [_, _]) 0 ty41 rfl rfl ⟨rfl, rfl, trivial⟩ ?_
    refine JL_move rfl ?_
    refine JL_callF' (Asks.cons (holds_of_mem (by repeat (first | with_reducible exact mm0 | refine mmS ?_))) (Asks.cons (holds_of_mem (by repeat (first | with_reducible exact mm0 | refine mmS ?_))) Asks.nil)) (rfind_con (by omega)) rfl ca51 ⟨rfl, rfl, rfl⟩ ?_
    rintro _ _ ⟨rfl, rfl⟩
    refine JL_assign rfl ?_
    refine JL_done_up 16 [box _ _ [_, _]] [_, _] rfl rfl (by simp only [nrmF]; rfl) rfl rfl ?_
    refine JC_seq ?_
    refine JC_seq ?_
    refine JC_region ?_
    refine JL_move rfl ?_
    refine JL_eql rfl rfl ?_
    refine JL_split (fun h14 => ?_) (fun h14 => ?_)
    · refine JL_done_up 16 [box _ _ [_, _]] [_, _] rfl rfl (by simp only [nrmF]; rfl) rfl rfl ?_
      refine JC_true rfl ?_
      refine JC_seq ?_
      refine JC_region ?_
      refine JL_assign rfl ?_
      refine JL_assign rfl ?_
      refine JL_done_up 16 [box _ _ [_, _]] [_, _] rfl rfl (by simp only [nrmF]; rfl) rfl rfl ?_
      refine JC_ret ?_
      refine JE_then_ret ?_
      refine JE_ret (vs := [_, _]) [] Try.results35 ⟨rfl, rfl, rfl⟩ ?_ ?_
      · rw [(num_none h8 (Bool.eq_false_iff.2 (fun e => (fnd_pos h8).2 e h14))).1, (num_none h8 (Bool.eq_false_iff.2 (fun e => (fnd_pos h8).2 e h14))).2]; exact ⟨rfl, rfl⟩
      · exact all_nil
    · refine JL_done_up 16 [box _ _ [_, _]] [_, _] rfl rfl (by simp only [nrmF]; rfl) rfl rfl ?_
      refine JC_false rfl ?_
      refine JC_skip ?_
      refine JE_then ?_
      refine JC_seq ?_
      refine JC_region ?_
      refine JL_move rfl ?_
      refine JL_assign rfl ?_
      refine JL_assign rfl ?_
      refine JL_done_up 16 [box _ _ [_, _]] [_, _] rfl rfl (by simp only [nrmF]; rfl) rfl rfl ?_
      refine JC_ret ?_
      refine JE_ret (vs := [_, _]) [] Try.results35 ⟨rfl, rfl, rfl⟩ ?_ ?_
      · rw [(num_ok h8 ((fnd_pos h8).1 h14)).1, (num_ok h8 ((fnd_pos h8).1 h14)).2]; exact ⟨rfl, rfl⟩
      · exact all_nil
  · refine JL_not rfl ?_
    rw [Bool.not_false]
    refine JL_done_up 16 [box _ _ [_, _]] [_, _] rfl rfl (by simp only [nrmF]; rfl) rfl rfl ?_
    refine JC_true rfl ?_
    refine JC_seq ?_
    refine JC_region ?_
    refine JL_assign rfl ?_
    refine JL_assign rfl ?_
    refine JL_done_up 16 [box _ _ [_, _]] [_, _] rfl rfl (by simp only [nrmF]; rfl) rfl rfl ?_
    refine JC_ret ?_
    refine JE_then_ret ?_
    refine JE_ret (vs := [_, _]) [] Try.results35 ⟨rfl, rfl, rfl⟩ ?_ ?_
    · rw [(num_no h8).1, (num_no h8).2]; exact ⟨rfl, rfl⟩
    · exact all_nil

end Go.Fw.K
