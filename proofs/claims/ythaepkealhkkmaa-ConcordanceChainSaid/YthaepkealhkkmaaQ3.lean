/- Walks through functions of the given program: each meets its contract. (Printed by a program of this repo.) -/
import Derived.Test.YthaepkealhkkmaaQ2
import Derived.Test.YthaepkealhkkmaaProg
namespace Go.Fw.Q3
open Go Go.RowKit Go.Proofs Go.Nat9 Go.Fw
attribute [local irreducible] JC JL JE
theorem ca24 : callable Try.prog 24 = true := by kernel_rfl
theorem ca25 : callable Try.prog 25 = true := by kernel_rfl
theorem ca42 : callable Try.prog 42 = true := by kernel_rfl
theorem fo51_0 : fOf Try.prog 51 0 = some 0 := by kernel_rfl
theorem fo51_1 : fOf Try.prog 51 1 = some 1 := by kernel_rfl
theorem mixed : Try.prog.follows .mixedOrders = true := by kernel_rfl
theorem sl22 : slOf Try.prog 22 = some (51, 2, 16, [.int .i64 0, .int .i64 0]) := by kernel_rfl
theorem sl28 : slOf Try.prog 28 = some (3, 1, 8, [.int .i64 0]) := by kernel_rfl
theorem ty3 : tyOf Try.prog 3 = some (false, 1) := by kernel_rfl
theorem ty51 : tyOf Try.prog 51 = some (true, 2) := by kernel_rfl
theorem z51 : zeroOf Try.prog 51 = some [.int .i64 0, .int .i64 0] := by kernel_rfl
end Go.Fw.Q3
namespace Go.Fw.K
open Go Go.RowKit Go.Proofs Go.Nat9 Go.Fw Go.Fw.Q3
attribute [local irreducible] JC JL JE

set_option maxHeartbeats 1000000 in
theorem ins_con {ad : Option Addr} {c : Nat} {l : List Pr} (hln : l.length ≤ 1000000) (hc : l.length ≤ c ∧ c ≤ 9223372036854775807) {p : Pr} :
    ConA Try.prog 37 [.slice ad l.length c, pv p] [vCells ad (pcells l)]
      (IPP (insP l p)) := by
  refine ConA_of Try.func37 rfl 48 _ rfl rfl ?_
  intro w0
  refine JC_norm ⟨48, [], [_, _, _, _, _, _, _, _, _, _, _, _, _, _, _, _, _, _, _, _, _, _, _, _, _, _, _, _, _, _, _, _, _, _, _, _, _, _, _, _, _, _, _, _, _, _, _, _]⟩ [] [_] rfl rfl rfl ?_
  refine JC_seq ?_
  refine JC_region ?_
  refine JL_box rfl rfl (fun b3 => ?_)
  refine JL_assign rfl ?_
  refine JL_done_up 48 [box _ _ [_, _]] [_] rfl rfl (by simp only [nrmF]; rfl) rfl rfl ?_
  refine JC_seq ?_
  refine JC_region ?_
  refine JL_assign rfl ?_
  refine JL_done_up 48 [box _ _ [_, _]] [_] rfl rfl (by simp only [nrmF]; rfl) rfl rfl ?_
  refine JC_seq ?_
  refine JC_block ?_
  refine JC_loopS ((Nat)) (fun (k : Nat) => k ≤ l.length ∧ ∀ j, j < k → ltP (l.getD j dP) p) (fun (k : Nat) => l.length - k) (fun u (k : Nat) => [none, none, none, none, none, some (.int .i64 (k : Nat)), none, some (u 7), some (u 8), some (u 9), some (u 10), some (u 11), some (u 12), some (u 13), some (u 14), some (u 15), some (u 16), some (u 17), some (u 18), some (u 19), some (u 20), none, none, none, none, none, none, none, none, none, none, none, none, none, none, none, none, none, none, none, none, none, none, none, none, none, none, none]) (fun (k : Nat) => [none]) (fun (k : Nat) => []) (0) (by kernel_rfl) ?_ (by kernel_rfl) ?_ ?_
  · exact ⟨Nat.zero_le _, fun j hj => absurd hj (Nat.not_lt_zero _)⟩
  · exact subset_nil
  intro u k hC
  obtain ⟨hk0, hj⟩ := hC
  refine JC_norm ⟨48, [], [_, _, _, _, _, _, _, _, _, _, _, _, _, _, _, _, _, _, _, _, _, _, _, _, _, _, _, _, _, _, _, _, _, _, _, _, _, _, _, _, _, _, _, _, _, _, _, _]⟩ [box _ _ [_, _]] [_] rfl rfl rfl ?_
  refine JC_seq ?_
  refine JC_seq ?_
  rcases insCases l k p with ⟨hk, hL⟩ | ⟨hk, hL⟩ | hk
  · refine JC_drawT mixed 10 [spV 7 [] _, spV 8 [] _, spV 9 [1] _, spV 10 [0, 2] _, spV 11 [3] _, spV 12 [4] _, spV 13 [4] _, spV 14 [4, 5, 6] _, spV 15 [4, 7] _, spV 16 [4] _] ⟨OblS_V (fun vals ex ψ => (by
        refine JL_normQ ⟨48, [(7, _), (8, _), (9, _), (10, _), (11, _), (12, _), (13, _), (14, _), (15, _), (16, _)], _⟩ (_ :: ψ) rfl rfl ?_
        refine JL_move rfl ?_
        exact JL_nil (JE_stepV rfl ss0))), OblS_V (fun vals ex ψ => (by
        refine JL_normQ ⟨48, [(7, _), (8, _), (9, _), (10, _), (11, _), (12, _), (13, _), (14, _), (15, _), (16, _)], _⟩ (_ :: ψ) rfl rfl ?_
        refine JL_move rfl ?_
        exact JL_nil (JE_stepV rfl ss0))), OblS_V (fun vals ex ψ => (by
        refine JL_normQ ⟨48, [(7, _), (8, _), (9, _), (10, _), (11, _), (12, _), (13, _), (14, _), (15, _), (16, _)], _⟩ (_ :: ψ) rfl rfl ?_
        refine JL_len sl22 rfl ?_
        exact JL_nil (JE_stepV rfl ss0))), OblS_V (fun vals ex ψ => (by
        refine JL_normQ ⟨48, [(7, _), (8, _), (9, _), (10, _), (11, _), (12, _), (13, _), (14, _), (15, _), (16, _)], _⟩ (_ :: ψ) rfl rfl ?_
        refine JL_lss rfl rfl ?_
        rw [decide_eq_true (p := ((k : Nat) : Int) < ((l.length : Nat) : Int)) (by omega)]
        exact JL_nil (JE_stepV rfl ss0))), OblS_V (fun vals ex ψ => (by
        refine JL_normQ ⟨48, [(7, _), (8, _), (9, _), (10, _), (11, _), (12, _), (13, _), (14, _), (15, _), (16, _)], _⟩ (_ :: ψ) rfl rfl ?_
        refine JL_move rfl ?_
        exact JL_nil (JE_stepV rfl ss0))), OblS_V (fun vals ex ψ => (by
        refine JL_normQ ⟨48, [(7, _), (8, _), (9, _), (10, _), (11, _), (12, _), (13, _), (14, _), (15, _), (16, _)], _⟩ (_ :: ψ) rfl rfl ?_
        refine JL_guard_yes rfl rfl ?_
        refine JL_move rfl ?_
        exact JL_nil (JE_stepV rfl ss0))), OblS_V (fun vals ex ψ => (by
        refine JL_normQ ⟨48, [(7, _), (8, _), (9, _), (10, _), (11, _), (12, _), (13, _), (14, _), (15, _), (16, _)], _⟩ (_ :: ψ) rfl rfl ?_
        refine JL_guard_yes rfl rfl ?_
        refine JL_move rfl ?_
        exact JL_nil (JE_stepV rfl ss0))), OblS_V (fun vals ex ψ => (by
        refine JL_normQ ⟨48, [(7, _), (8, _), (9, _), (10, _), (11, _), (12, _), (13, _), (14, _), (15, _), (16, _)], _⟩ (_ :: ψ) rfl rfl ?_
        refine JL_guard_yes rfl rfl ?_
        refine JL_indexAddr k sl22 rfl rfl rfl (by omega) (by first | exact Reads.view (by repeat (first | with_reducible exact mm0 | refine mmS ?_))) (by rw [pcells_length]; omega) ?_
        exact JL_nil (JE_stepV rfl ss0))), OblS_V (fun vals ex ψ => (by
        refine JL_normQ ⟨48, [(7, _), (8, _), (9, _), (10, _), (11, _), (12, _), (13, _), (14, _), (15, _), (16, _)], _⟩ (_ :: ψ) rfl rfl ?_
        refine JL_guard_yes rfl rfl ?_
        refine JL_loadEA (vs := [_, _]) ty51 (Nat.zero_lt_succ _) rfl (by first | exact Reads.view (by repeat (first | with_reducible exact mm0 | refine mmS ?_))) (pcells_getA (by omega)) ?_
        exact JL_nil (JE_stepV rfl ss0))), OblS_V (fun vals ex ψ => (by
        refine JL_normQ ⟨48, [(7, _), (8, _), (9, _), (10, _), (11, _), (12, _), (13, _), (14, _), (15, _), (16, _)], _⟩ (_ :: ψ) rfl rfl ?_
        refine JL_guard_yes rfl rfl ?_
        refine JL_loadA (vs := [_, _]) 0 ty51 rfl rfl ⟨rfl, rfl, trivial⟩ ?_
        exact JL_nil (JE_stepV rfl ss0))), trivial⟩ (by kernel_rfl) (fun vals bs => ?_)
    refine JL_normL [_, _] ⟨48, [(7, _), (8, _), (9, _), (10, _), (11, _), (12, _), (13, _), (14, _), (15, _), (16, _)], _⟩ [box _ _ [_, _]] [_] rfl rfl rfl rfl ?_
    refine JL_guard_yes rfl rfl ?_
    refine JL_callF' Asks.nil (befT_con hL) rfl ca42 ⟨rfl, rfl, rfl⟩ ?_
    rintro _ _ ⟨rfl, rfl⟩
    refine JL_pick_t rfl rfl ?_
    refine JL_done_up 48 [box _ _ [_, _]] [_] rfl rfl (by simp only [nrmF]; rfl) rfl rfl ?_
    refine JC_true rfl ?_
    refine JC_skip ?_
    refine JE_then ?_
    refine JC_block ?_
    refine JC_region ?_
    refine JL_move rfl ?_
    refine JL_add_to rfl rfl (IntWalk.i64_in _ (by omega)) ?_
    refine JL_assign rfl ?_
    refine JL_nil_up 48 [box _ _ [_, _]] [_] rfl rfl (by simp only [nrmF]; rfl) rfl rfl ?_
    refine JE_block_normal ?_
    refine JE_nextS (k + 1) (by kernel_rfl) ?_ ?_ (by kernel_rfl) ?_
    · exact ⟨by omega, insNext hj hL⟩
    · first | omega | (dsimp only; omega)
    · exact subset_app subset_nil ss0
  · refine JC_drawT mixed 10 [spV 7 [] _, spV 8 [] _, spV 9 [1] _, spV 10 [0, 2] _, spV 11 [3] _, spV 12 [4] _, spV 13 [4] _, spV 14 [4, 5, 6] _, spV 15 [4, 7] _, spV 16 [4] _] ⟨OblS_V (fun vals ex ψ => (by
        refine JL_normQ ⟨48, [(7, _), (8, _), (9, _), (10, _), (11, _), (12, _), (13, _), (14, _), (15, _), (16, _)], _⟩ (_ :: ψ) rfl rfl ?_
        refine JL_move rfl ?_
        exact JL_nil (JE_stepV rfl ss0))), OblS_V (fun vals ex ψ => (by
        refine JL_normQ ⟨48, [(7, _), (8, _), (9, _), (10, _), (11, _), (12, _), (13, _), (14, _), (15, _), (16, _)], _⟩ (_ :: ψ) rfl rfl ?_
        refine JL_move rfl ?_
        exact JL_nil (JE_stepV rfl ss0))), OblS_V (fun vals ex ψ => (by
        refine JL_normQ ⟨48, [(7, _), (8, _), (9, _), (10, _), (11, _), (12, _), (13, _), (14, _), (15, _), (16, _)], _⟩ (_ :: ψ) rfl rfl ?_
        refine JL_len sl22 rfl ?_
        exact JL_nil (JE_stepV rfl ss0))), OblS_V (fun vals ex ψ => (by
        refine JL_normQ ⟨48, [(7, _), (8, _), (9, _), (10, _), (11, _), (12, _), (13, _), (14, _), (15, _), (16, _)], _⟩ (_ :: ψ) rfl rfl ?_
        refine JL_lss rfl rfl ?_
        rw [decide_eq_true (p := ((k : Nat) : Int) < ((l.length : Nat) : Int)) (by omega)]
        exact JL_nil (JE_stepV rfl ss0))), OblS_V (fun vals ex ψ => (by
        refine JL_normQ ⟨48, [(7, _), (8, _), (9, _), (10, _), (11, _), (12, _), (13, _), (14, _), (15, _), (16, _)], _⟩ (_ :: ψ) rfl rfl ?_
        refine JL_move rfl ?_
        exact JL_nil (JE_stepV rfl ss0))), OblS_V (fun vals ex ψ => (by
        refine JL_normQ ⟨48, [(7, _), (8, _), (9, _), (10, _), (11, _), (12, _), (13, _), (14, _), (15, _), (16, _)], _⟩ (_ :: ψ) rfl rfl ?_
        refine JL_guard_yes rfl rfl ?_
        refine JL_move rfl ?_
        exact JL_nil (JE_stepV rfl ss0))), OblS_V (fun vals ex ψ => (by
        refine JL_normQ ⟨48, [(7, _), (8, _), (9, _), (10, _), (11, _), (12, _), (13, _), (14, _), (15, _), (16, _)], _⟩ (_ :: ψ) rfl rfl ?_
        refine JL_guard_yes rfl rfl ?_
        refine JL_move rfl ?_
        exact JL_nil (JE_stepV rfl ss0))), OblS_V (fun vals ex ψ => (by
        refine JL_normQ ⟨48, [(7, _), (8, _), (9, _), (10, _), (11, _), (12, _), (13, _), (14, _), (15, _), (16, _)], _⟩ (_ :: ψ) rfl rfl ?_
        refine JL_guard_yes rfl rfl ?_
        refine JL_indexAddr k sl22 rfl rfl rfl (by omega) (by first | exact Reads.view (by repeat (first | with_reducible exact mm0 | refine mmS ?_))) (by rw [pcells_length]; omega) ?_
        exact JL_nil (JE_stepV rfl ss0))), OblS_V (fun vals ex ψ => (by
        refine JL_normQ ⟨48, [(7, _), (8, _), (9, _), (10, _), (11, _), (12, _), (13, _), (14, _), (15, _), (16, _)], _⟩ (_ :: ψ) rfl rfl ?_
        refine JL_guard_yes rfl rfl ?_
        refine JL_loadEA (vs := [_, _]) ty51 (Nat.zero_lt_succ _) rfl (by first | exact Reads.view (by repeat (first | with_reducible exact mm0 | refine mmS ?_))) (pcells_getA (by omega)) ?_
        exact JL_nil (JE_stepV rfl ss0))), OblS_V (fun vals ex ψ => (by
        refine JL_normQ ⟨48, [(7, _), (8, _), (9, _), (10, _), (11, _), (12, _), (13, _), (14, _), (15, _), (16, _)], _⟩ (_ :: ψ) rfl rfl ?_
        refine JL_guard_yes rfl rfl ?_
        refine JL_loadA (vs := [_, _]) 0 ty51 rfl rfl ⟨rfl, rfl, trivial⟩ ?_
        exact JL_nil (JE_stepV rfl ss0))), trivial⟩ (by kernel_rfl) (fun vals bs => ?_)
    refine JL_normL [_, _] ⟨48, [(7, _), (8, _), (9, _), (10, _), (11, _), (12, _), (13, _), (14, _), (15, _), (16, _)], _⟩ [box _ _ [_, _]] [_] rfl rfl rfl rfl ?_
    refine JL_guard_yes rfl rfl ?_
    refine JL_callF' Asks.nil (befF_con hL) rfl ca42 ⟨rfl, rfl, rfl⟩ ?_
    rintro _ _ ⟨rfl, rfl⟩
    refine JL_pick_t rfl rfl ?_
    refine JL_done_up 48 [box _ _ [_, _]] [_] rfl rfl (by simp only [nrmF]; rfl) rfl rfl ?_
    refine JC_false rfl ?_
    refine JC_exit ?_
    refine JE_then_exit ?_
    refine JE_nextS_exit ?_
    refine JE_block_exit ?_
    refine JE_then ?_
    refine JC_seq ?_
    refine JC_seq ?_
    have hs : k < l.length → ¬ ltP (l.getD k dP) p := by first | exact fun _ => hL | exact fun h => absurd h hk
    rcases eqCases l k p with ⟨hk2, he⟩ | ⟨hk2, he⟩ | hk2
    · refine JC_drawT mixed 10 [spV 21 [] _, spV 22 [] _, spV 23 [1] _, spV 24 [0, 2] _, spV 25 [3] _, spV 26 [4] _, spV 27 [4] _, spV 28 [4, 5, 6] _, spV 29 [4, 7] _, spV 30 [4] _] ⟨OblS_V (fun vals ex ψ => (by
          refine JL_normQ ⟨48, [(21, _), (22, _), (23, _), (24, _), (25, _), (26, _), (27, _), (28, _), (29, _), (30, _)], _⟩ (_ :: ψ) rfl rfl ?_
          refine JL_move rfl ?_
          exact JL_nil (JE_stepV rfl ss0))), OblS_V (fun vals ex ψ => (by
          refine JL_normQ ⟨48, [(21, _), (22, _), (23, _), (24, _), (25, _), (26, _), (27, _), (28, _), (29, _), (30, _)], _⟩ (_ :: ψ) rfl rfl ?_
          refine JL_move rfl ?_
          exact JL_nil (JE_stepV rfl ss0))), OblS_V (fun vals ex ψ => (by
          refine JL_normQ ⟨48, [(21, _), (22, _), (23, _), (24, _), (25, _), (26, _), (27, _), (28, _), (29, _), (30, _)], _⟩ (_ :: ψ) rfl rfl ?_
          refine JL_len sl22 rfl ?_
          exact JL_nil (JE_stepV rfl ss0))), OblS_V (fun vals ex ψ => (by
          refine JL_normQ ⟨48, [(21, _), (22, _), (23, _), (24, _), (25, _), (26, _), (27, _), (28, _), (29, _), (30, _)], _⟩ (_ :: ψ) rfl rfl ?_
          refine JL_lss rfl rfl ?_
          rw [decide_eq_true (p := ((k : Nat) : Int) < ((l.length : Nat) : Int)) (by omega)]
          exact JL_nil (JE_stepV rfl ss0))), OblS_V (fun vals ex ψ => (by
          refine JL_normQ ⟨48, [(21, _), (22, _), (23, _), (24, _), (25, _), (26, _), (27, _), (28, _), (29, _), (30, _)], _⟩ (_ :: ψ) rfl rfl ?_
          refine JL_move rfl ?_
          exact JL_nil (JE_stepV rfl ss0))), OblS_V (fun vals ex ψ => (by
          refine JL_normQ ⟨48, [(21, _), (22, _), (23, _), (24, _), (25, _), (26, _), (27, _), (28, _), (29, _), (30, _)], _⟩ (_ :: ψ) rfl rfl ?_
          refine JL_guard_yes rfl rfl ?_
          refine JL_move rfl ?_
          exact JL_nil (JE_stepV rfl ss0))), OblS_V (fun vals ex ψ => (by
          refine JL_normQ ⟨48, [(21, _), (22, _), (23, _), (24, _), (25, _), (26, _), (27, _), (28, _), (29, _), (30, _)], _⟩ (_ :: ψ) rfl rfl ?_
          refine JL_guard_yes rfl rfl ?_
          refine JL_move rfl ?_
          exact JL_nil (JE_stepV rfl ss0))), OblS_V (fun vals ex ψ => (by
          refine JL_normQ ⟨48, [(21, _), (22, _), (23, _), (24, _), (25, _), (26, _), (27, _), (28, _), (29, _), (30, _)], _⟩ (_ :: ψ) rfl rfl ?_
          refine JL_guard_yes rfl rfl ?_
          refine JL_indexAddr k sl22 rfl rfl rfl (by omega) (by first | exact Reads.view (by repeat (first | with_reducible exact mm0 | refine mmS ?_))) (by rw [pcells_length]; omega) ?_
          exact JL_nil (JE_stepV rfl ss0))), OblS_V (fun vals ex ψ => (by
          refine JL_normQ ⟨48, [(21, _), (22, _), (23, _), (24, _), (25, _), (26, _), (27, _), (28, _), (29, _), (30, _)], _⟩ (_ :: ψ) rfl rfl ?_
          refine JL_guard_yes rfl rfl ?_
          refine JL_loadEA (vs := [_, _]) ty51 (Nat.zero_lt_succ _) rfl (by first | exact Reads.view (by repeat (first | with_reducible exact mm0 | refine mmS ?_))) (pcells_getA (by omega)) ?_
          exact JL_nil (JE_stepV rfl ss0))), OblS_V (fun vals ex ψ => (by
          refine JL_normQ ⟨48, [(21, _), (22, _), (23, _), (24, _), (25, _), (26, _), (27, _), (28, _), (29, _), (30, _)], _⟩ (_ :: ψ) rfl rfl ?_
          refine JL_guard_yes rfl rfl ?_
          refine JL_loadA (vs := [_, _]) 0 ty51 rfl rfl ⟨rfl, rfl, trivial⟩ ?_
          exact JL_nil (JE_stepV rfl ss0))), trivial⟩ (by kernel_rfl) (fun vals bs => ?_)
      refine JL_normL [_, _] ⟨48, [(21, _), (22, _), (23, _), (24, _), (25, _), (26, _), (27, _), (28, _), (29, _), (30, _)], _⟩ [box _ _ [_, _]] [_] rfl rfl rfl rfl ?_
      refine JL_guard_yes rfl rfl ?_
      refine JL_eqlP eqPair rfl rfl ?_
      rw [decide_eq_true (p := l.getD k dP = p) he]
      refine JL_pick_t rfl rfl ?_
      refine JL_done_up 48 [box _ _ [_, _]] [_] rfl rfl (by simp only [nrmF]; rfl) rfl rfl ?_
      refine JC_true rfl ?_
      refine JC_seq ?_
      refine JC_region ?_
      refine JL_move rfl ?_
      refine JL_assign rfl ?_
      refine JL_done_up 48 [box _ _ [_, _]] [_] rfl rfl (by simp only [nrmF]; rfl) rfl rfl ?_
      refine JC_ret ?_
      refine JE_then_ret ?_
      refine JE_ret (vs := [_]) [vCells ad (pcells l)] Try.results37 ⟨rfl, rfl⟩ ?_ ?_
      · rw [insP_at (k := k) (by omega) hj hs, if_pos ⟨hk2, he⟩]; exact ⟨ad, c, rfl, hc, rfl⟩
      · exact (all_cons (by repeat (first | with_reducible exact mm0 | refine mmS ?_)) all_nil)
    · refine JC_drawT mixed 10 [spV 21 [] _, spV 22 [] _, spV 23 [1] _, spV 24 [0, 2] _, spV 25 [3] _, spV 26 [4] _, spV 27 [4] _, spV 28 [4, 5, 6] _, spV 29 [4, 7] _, spV 30 [4] _] ⟨OblS_V (fun vals ex ψ => (by
          refine JL_normQ ⟨48, [(21, _), (22, _), (23, _), (24, _), (25, _), (26, _), (27, _), (28, _), (29, _), (30, _)], _⟩ (_ :: ψ) rfl rfl ?_
          refine JL_move rfl ?_
          exact JL_nil (JE_stepV rfl ss0))), OblS_V (fun vals ex ψ => (by
          refine JL_normQ ⟨48, [(21, _), (22, _), (23, _), (24, _), (25, _), (26, _), (27, _), (28, _), (29, _), (30, _)], _⟩ (_ :: ψ) rfl rfl ?_
          refine JL_move rfl ?_
          exact JL_nil (JE_stepV rfl ss0))), OblS_V (fun vals ex ψ => (by
          refine JL_normQ ⟨48, [(21, _), (22, _), (23, _), (24, _), (25, _), (26, _), (27, _), (28, _), (29, _), (30, _)], _⟩ (_ :: ψ) rfl rfl ?_
          refine JL_len sl22 rfl ?_
          exact JL_nil (JE_stepV rfl ss0))), OblS_V (fun vals ex ψ => (by
          refine JL_normQ ⟨48, [(21, _), (22, _), (23, _), (24, _), (25, _), (26, _), (27, _), (28, _), (29, _), (30, _)], _⟩ (_ :: ψ) rfl rfl ?_
          refine JL_lss rfl rfl ?_
          rw [decide_eq_true (p := ((k : Nat) : Int) < ((l.length : Nat) : Int)) (by omega)]
          exact JL_nil (JE_stepV rfl ss0))), OblS_V (fun vals ex ψ => (by
          refine JL_normQ ⟨48, [(21, _), (22, _), (23, _), (24, _), (25, _), (26, _), (27, _), (28, _), (29, _), (30, _)], _⟩ (_ :: ψ) rfl rfl ?_
          refine JL_move rfl ?_
          exact JL_nil (JE_stepV rfl ss0))), OblS_V (fun vals ex ψ => (by
          refine JL_normQ ⟨48, [(21, _), (22, _), (23, _), (24, _), (25, _), (26, _), (27, _), (28, _), (29, _), (30, _)], _⟩ (_ :: ψ) rfl rfl ?_
          refine JL_guard_yes rfl rfl ?_
          refine JL_move rfl ?_
          exact JL_nil (JE_stepV rfl ss0))), OblS_V (fun vals ex ψ => (by
          refine JL_normQ ⟨48, [(21, _), (22, _), (23, _), (24, _), (25, _), (26, _), (27, _), (28, _), (29, _), (30, _)], _⟩ (_ :: ψ) rfl rfl ?_
          refine JL_guard_yes rfl rfl ?_
          refine JL_move rfl ?_
          exact JL_nil (JE_stepV rfl ss0))), OblS_V (fun vals ex ψ => (by
          refine JL_normQ ⟨48, [(21, _), (22, _), (23, _), (24, _), (25, _), (26, _), (27, _), (28, _), (29, _), (30, _)], _⟩ (_ :: ψ) rfl rfl ?_
          refine JL_guard_yes rfl rfl ?_
          refine JL_indexAddr k sl22 rfl rfl rfl (by omega) (by first | exact Reads.view (by repeat (first | with_reducible exact mm0 | refine mmS ?_))) (by rw [pcells_length]; omega) ?_
          exact JL_nil (JE_stepV rfl ss0))), OblS_V (fun vals ex ψ => (by
          refine JL_normQ ⟨48, [(21, _), (22, _), (23, _), (24, _), (25, _), (26, _), (27, _), (28, _), (29, _), (30, _)], _⟩ (_ :: ψ) rfl rfl ?_
          refine JL_guard_yes rfl rfl ?_
          refine JL_loadEA (vs := [_, _]) ty51 (Nat.zero_lt_succ _) rfl (by first | exact Reads.view (by repeat (first | with_reducible exact mm0 | refine mmS ?_))) (pcells_getA (by omega)) ?_
          exact JL_nil (JE_stepV rfl ss0))), OblS_V (fun vals ex ψ => (by
          refine JL_normQ ⟨48, [(21, _), (22, _), (23, _), (24, _), (25, _), (26, _), (27, _), (28, _), (29, _), (30, _)], _⟩ (_ :: ψ) rfl rfl ?_
          refine JL_guard_yes rfl rfl ?_
          refine JL_loadA (vs := [_, _]) 0 ty51 rfl rfl ⟨rfl, rfl, trivial⟩ ?_
          exact JL_nil (JE_stepV rfl ss0))), trivial⟩ (by kernel_rfl) (fun vals bs => ?_)
      refine JL_normL [_, _] ⟨48, [(21, _), (22, _), (23, _), (24, _), (25, _), (26, _), (27, _), (28, _), (29, _), (30, _)], _⟩ [box _ _ [_, _]] [_] rfl rfl rfl rfl ?_
      refine JL_guard_yes rfl rfl ?_
      refine JL_eqlP eqPair rfl rfl ?_
      rw [decide_eq_false (p := l.getD k dP = p) he]
      refine JL_pick_t rfl rfl ?_
      refine JL_done_up 48 [box _ _ [_, _]] [_] rfl rfl (by simp only [nrmF]; rfl) rfl rfl ?_
      refine JC_false rfl ?_
      refine JC_skip ?_
      refine JE_then ?_
      refine JC_seq ?_
      have hI : insP l p = l.take k ++ [p] ++ l.drop k := (insP_at (k := k) (by omega) hj hs).trans (if_neg (fun e => by first | exact he e.2 | exact hk2 e.1))
      refine JC_addView (f := true) (p := vCells ad (pcells (l.take k))) (fun w s => cellsTake k (s.views _ (show (true, vCells ad (pcells l)) ∈ _ from (by repeat (first | exact mm0 | refine mmS ?_))))) ?_
      refine JC_addView (f := true) (p := vCells (subAd ad c k 2) (pcells (l.drop k))) (fun w s => cellsDrop c k hc.1 (s.views _ (show (true, vCells ad (pcells l)) ∈ _ from (by repeat (first | exact mm0 | refine mmS ?_))))) ?_
      refine JC_region ?_
      refine JL_build0 sl22 (fun g34 => ?_)
      refine JL_move rfl ?_
      refine JL_move rfl ?_
      refine JL_sliceTo k sl22 rfl rfl (by omega) (by omega) ?_
      refine JL_append (news := pcells (l.take k)) 1 sl22 rfl (by decide) rfl rfl rfl (by rw [pcells_length, List.length_take]; omega) (Reads.view (by repeat (first | with_reducible exact mm0 | refine mmS ?_))) (allOne_pcells _) (by omega) (by omega) (fun ad38 cap38 hc38 => ?_)
      refine JL_norm _ [box _ _ [_, _], osl _ _ _ _ _ _] [_, _, _] rfl rfl rfl ?_
      refine JL_assign rfl ?_
      refine JL_done_up 48 [box _ _ [_, _], osl _ _ _ _ _ _] [_, _, _] rfl rfl (by simp only [nrmF]; rfl) rfl rfl ?_
      refine JC_seq ?_
      refine JC_region ?_
      refine JL_move rfl ?_
      refine JL_loadA (vs := [_, _]) 0 ty51 rfl rfl ⟨rfl, rfl, trivial⟩ ?_
      refine JL_buildN (cs0 := [.int .i64 0, .int .i64 0]) (cs := [_, _]) [(0, [_, _])] sl22 (by kernel_rfl) ⟨⟨rfl, _, rfl, rfl⟩, rfl⟩ rfl rfl rfl rfl (fun g41 => ?_)
      refine JL_append (news := [_, _]) 1 sl22 rfl (by decide) rfl rfl rfl rfl (Reads.own 2 rfl) (AllOne.cons rfl (AllOne.cons rfl AllOne.nil)) (by omega) (by omega) (fun ad42 cap42 hc42 => ?_)
      refine JL_dropAt 2 ?_
      refine JL_norm _ [box _ _ [_, _], osl _ _ _ _ _ _] [_, _, _] rfl rfl rfl ?_
      refine JL_assign rfl ?_
      refine JL_done_up 48 [box _ _ [_, _], osl _ _ _ _ _ _] [_, _, _] rfl rfl (by simp only [nrmF]; rfl) rfl rfl ?_
      refine JC_seq ?_
      refine JC_region ?_
      refine JL_move rfl ?_
      refine JL_move rfl ?_
      refine JL_move rfl ?_
      refine JL_slice k l.length c sl22 rfl (.some rfl rfl) .none .none (.inl rfl) (by omega) hc.1 (by omega) ?_
      refine JL_append (news := pcells (l.drop k)) 1 sl22 rfl (by decide) rfl rfl rfl (by rw [pcells_length, List.length_drop]) (Reads.view (by repeat (first | with_reducible exact mm0 | refine mmS ?_))) (allOne_pcells _) (by omega) (by omega) (fun ad47 cap47 hc47 => ?_)
      refine JL_norm _ [box _ _ [_, _], osl _ _ _ _ _ _] [_, _, _] rfl rfl rfl ?_
      rw [show 0 + k + 1 + (l.length - k) = (insP l p).length from by rw [hI]; simp only [List.length_append, List.length_take, List.length_drop, List.length_cons, List.length_nil]; omega, show ([] ++ pcells (l.take k)) ++ pc p ++ pcells (l.drop k) = pcells (insP l p) from by rw [hI, pcells_app, pcells_app]; rfl]
      refine JL_assign rfl ?_
      refine JL_done_up 48 [box _ _ [_, _], osl _ _ _ _ _ _] [_, _, _] rfl rfl (by simp only [nrmF]; rfl) rfl rfl ?_
      refine JC_ret ?_
      refine JE_give 1 rfl ?_
      refine JE_norm _ [box _ _ [_, _]] [_, _, _, _] rfl rfl rfl ?_
      refine JE_ret (vs := [_]) [vCells ad47 (pcells (insP l p))] Try.results37 ⟨rfl, rfl⟩ ?_ ?_
      · exact ⟨ad47, cap47, rfl, by rw [show (insP l p).length = 0 + k + 1 + (l.length - k) from by rw [hI]; simp only [List.length_append, List.length_take, List.length_drop, List.length_cons, List.length_nil]; omega]; exact hc47, rfl⟩
      · exact (all_cons (by repeat (first | with_reducible exact mm0 | refine mmS ?_)) all_nil)
    · refine JC_drawT mixed 10 [spV 21 [] _, spV 22 [] _, spV 23 [1] _, spV 24 [0, 2] _, spV 25 [3] _, spV 26 [4] _, spV 27 [4] _, spV 28 [4, 5, 6] _, spV 29 [4, 7] _, spV 30 [4] _] ⟨OblS_V (fun vals ex ψ => (by
          refine JL_normQ ⟨48, [(21, _), (22, _), (23, _), (24, _), (25, _), (26, _), (27, _), (28, _), (29, _), (30, _)], _⟩ (_ :: ψ) rfl rfl ?_
          refine JL_move rfl ?_
          exact JL_nil (JE_stepV rfl ss0))), OblS_V (fun vals ex ψ => (by
          refine JL_normQ ⟨48, [(21, _), (22, _), (23, _), (24, _), (25, _), (26, _), (27, _), (28, _), (29, _), (30, _)], _⟩ (_ :: ψ) rfl rfl ?_
          refine JL_move rfl ?_
          exact JL_nil (JE_stepV rfl ss0))), OblS_V (fun vals ex ψ => (by
          refine JL_normQ ⟨48, [(21, _), (22, _), (23, _), (24, _), (25, _), (26, _), (27, _), (28, _), (29, _), (30, _)], _⟩ (_ :: ψ) rfl rfl ?_
          refine JL_len sl22 rfl ?_
          exact JL_nil (JE_stepV rfl ss0))), OblS_V (fun vals ex ψ => (by
          refine JL_normQ ⟨48, [(21, _), (22, _), (23, _), (24, _), (25, _), (26, _), (27, _), (28, _), (29, _), (30, _)], _⟩ (_ :: ψ) rfl rfl ?_
          refine JL_lss rfl rfl ?_
          rw [decide_eq_false (p := ((k : Nat) : Int) < ((l.length : Nat) : Int)) (by omega)]
          exact JL_nil (JE_stepV rfl ss0))), OblS_V (fun vals ex ψ => (by
          refine JL_normQ ⟨48, [(21, _), (22, _), (23, _), (24, _), (25, _), (26, _), (27, _), (28, _), (29, _), (30, _)], _⟩ (_ :: ψ) rfl rfl ?_
          refine JL_move rfl ?_
          exact JL_nil (JE_stepV rfl ss0))), OblS_V (fun vals ex ψ => (by
          refine JL_normQ ⟨48, [(21, _), (22, _), (23, _), (24, _), (25, _), (26, _), (27, _), (28, _), (29, _), (30, _)], _⟩ (_ :: ψ) rfl rfl ?_
          refine JL_guard_no rfl rfl ?_
          exact JL_nil (JE_stepV rfl ss0))), OblS_V (fun vals ex ψ => (by
          refine JL_normQ ⟨48, [(21, _), (22, _), (23, _), (24, _), (25, _), (26, _), (27, _), (28, _), (29, _), (30, _)], _⟩ (_ :: ψ) rfl rfl ?_
          refine JL_guard_no rfl rfl ?_
          exact JL_nil (JE_stepV rfl ss0))), OblS_V (fun vals ex ψ => (by
          refine JL_normQ ⟨48, [(21, _), (22, _), (23, _), (24, _), (25, _), (26, _), (27, _), (28, _), (29, _), (30, _)], _⟩ (_ :: ψ) rfl rfl ?_
          refine JL_guard_no rfl rfl ?_
          exact JL_nil (JE_stepV rfl ss0))), OblS_V (fun vals ex ψ => (by
          refine JL_normQ ⟨48, [(21, _), (22, _), (23, _), (24, _), (25, _), (26, _), (27, _), (28, _), (29, _), (30, _)], _⟩ (_ :: ψ) rfl rfl ?_
          refine JL_guard_no rfl rfl ?_
          exact JL_nil (JE_stepV rfl ss0))), OblS_V (fun vals ex ψ => (by
          refine JL_normQ ⟨48, [(21, _), (22, _), (23, _), (24, _), (25, _), (26, _), (27, _), (28, _), (29, _), (30, _)], _⟩ (_ :: ψ) rfl rfl ?_
          refine JL_guard_no rfl rfl ?_
          exact JL_nil (JE_stepV rfl ss0))), trivial⟩ (by kernel_rfl) (fun vals bs => ?_)
      refine JL_normL [_, _] ⟨48, [(21, _), (22, _), (23, _), (24, _), (25, _), (26, _), (27, _), (28, _), (29, _), (30, _)], _⟩ [box _ _ [_, _]] [_] rfl rfl rfl rfl ?_
      refine JL_guard_no rfl rfl ?_
      refine JL_pick_f rfl rfl ?_
      refine JL_done_up 48 [box _ _ [_, _]] [_] rfl rfl (by simp only [nrmF]; rfl) rfl rfl ?_
      refine JC_false rfl ?_
      refine JC_skip ?_
      refine JE_then ?_
      refine JC_seq ?_
      have hI : insP l p = l.take k ++ [p] ++ l.drop k := (insP_at (k := k) (by omega) hj hs).trans (if_neg (fun e => by first | exact he e.2 | exact hk2 e.1))
      refine JC_addView (f := true) (p := vCells ad (pcells (l.take k))) (fun w s => cellsTake k (s.views _ (show (true, vCells ad (pcells l)) ∈ _ from (by repeat (first | exact mm0 | refine mmS ?_))))) ?_
      refine JC_addView (f := true) (p := vCells (subAd ad c k 2) (pcells (l.drop k))) (fun w s => cellsDrop c k hc.1 (s.views _ (show (true, vCells ad (pcells l)) ∈ _ from (by repeat (first | exact mm0 | refine mmS ?_))))) ?_
      refine JC_region ?_
      refine JL_build0 sl22 (fun g34 => ?_)
      refine JL_move rfl ?_
      refine JL_move rfl ?_
      refine JL_sliceTo k sl22 rfl rfl (by omega) (by omega) ?_
      refine JL_append (news := pcells (l.take k)) 1 sl22 rfl (by decide) rfl rfl rfl (by rw [pcells_length, List.length_take]; omega) (Reads.view (by repeat (first | with_reducible exact mm0 | refine mmS ?_))) (allOne_pcells _) (by omega) (by omega) (fun ad38 cap38 hc38 => ?_)
      refine JL_norm _ [box _ _ [_, _], osl _ _ _ _ _ _] [_, _, _] rfl rfl rfl ?_
      refine JL_assign rfl ?_
      refine JL_done_up 48 [box _ _ [_, _], osl _ _ _ _ _ _] [_, _, _] rfl rfl (by simp only [nrmF]; rfl) rfl rfl ?_
      refine JC_seq ?_
      refine JC_region ?_
      refine JL_move rfl ?_
      refine JL_loadA (vs := [_, _]) 0 ty51 rfl rfl ⟨rfl, rfl, trivial⟩ ?_
      refine JL_buildN (cs0 := [.int .i64 0, .int .i64 0]) (cs := [_, _]) [(0, [_, _])] sl22 (by kernel_rfl) ⟨⟨rfl, _, rfl, rfl⟩, rfl⟩ rfl rfl rfl rfl (fun g41 => ?_)
      refine JL_append (news := [_, _]) 1 sl22 rfl (by decide) rfl rfl rfl rfl (Reads.own 2 rfl) (AllOne.cons rfl (AllOne.cons rfl AllOne.nil)) (by omega) (by omega) (fun ad42 cap42 hc42 => ?_)
      refine JL_dropAt 2 ?_
      refine JL_norm _ [box _ _ [_, _], osl _ _ _ _ _ _] [_, _, _] rfl rfl rfl ?_
      refine JL_assign rfl ?_
      refine JL_done_up 48 [box _ _ [_, _], osl _ _ _ _ _ _] [_, _, _] rfl rfl (by simp only [nrmF]; rfl) rfl rfl ?_
      refine JC_seq ?_
      refine JC_region ?_
      refine JL_move rfl ?_
      refine JL_move rfl ?_
      refine JL_move rfl ?_
      refine JL_slice k l.length c sl22 rfl (.some rfl rfl) .none .none (.inl rfl) (by omega) hc.1 (by omega) ?_
      refine JL_append (news := pcells (l.drop k)) 1 sl22 rfl (by decide) rfl rfl rfl (by rw [pcells_length, List.length_drop]) (Reads.view (by repeat (first | with_reducible exact mm0 | refine mmS ?_))) (allOne_pcells _) (by omega) (by omega) (fun ad47 cap47 hc47 => ?_)
      refine JL_norm _ [box _ _ [_, _], osl _ _ _ _ _ _] [_, _, _] rfl rfl rfl ?_
      rw [show 0 + k + 1 + (l.length - k) = (insP l p).length from by rw [hI]; simp only [List.length_append, List.length_take, List.length_drop, List.length_cons, List.length_nil]; omega, show ([] ++ pcells (l.take k)) ++ pc p ++ pcells (l.drop k) = pcells (insP l p) from by rw [hI, pcells_app, pcells_app]; rfl]
      refine JL_assign rfl ?_
      refine JL_done_up 48 [box _ _ [_, _], osl _ _ _ _ _ _] [_, _, _] rfl rfl (by simp only [nrmF]; rfl) rfl rfl ?_
      refine JC_ret ?_
      refine JE_give 1 rfl ?_
      refine JE_norm _ [box _ _ [_, _]] [_, _, _, _] rfl rfl rfl ?_
      refine JE_ret (vs := [_]) [vCells ad47 (pcells (insP l p))] Try.results37 ⟨rfl, rfl⟩ ?_ ?_
      · exact ⟨ad47, cap47, rfl, by rw [show (insP l p).length = 0 + k + 1 + (l.length - k) from by rw [hI]; simp only [List.length_append, List.length_take, List.length_drop, List.length_cons, List.length_nil]; omega]; exact hc47, rfl⟩
      · exact (all_cons (by repeat (first | with_reducible exact mm0 | refine mmS ?_)) all_nil)
  · refine JC_drawT mixed 10 [spV 7 [] _, spV 8 [] _, spV 9 [1] _, spV 10 [0, 2] _, spV 11 [3] _, spV 12 [4] _, spV 13 [4] _, spV 14 [4, 5, 6] _, spV 15 [4, 7] _, spV 16 [4] _] ⟨OblS_V (fun vals ex ψ => (by
        refine JL_normQ ⟨48, [(7, _), (8, _), (9, _), (10, _), (11, _), (12, _), (13, _), (14, _), (15, _), (16, _)], _⟩ (_ :: ψ) rfl rfl ?_
        refine JL_move rfl ?_
        exact JL_nil (JE_stepV rfl ss0))), OblS_V (fun vals ex ψ => (by
        refine JL_normQ ⟨48, [(7, _), (8, _), (9, _), (10, _), (11, _), (12, _), (13, _), (14, _), (15, _), (16, _)], _⟩ (_ :: ψ) rfl rfl ?_
        refine JL_move rfl ?_
        exact JL_nil (JE_stepV rfl ss0))), OblS_V (fun vals ex ψ => (by
        refine JL_normQ ⟨48, [(7, _), (8, _), (9, _), (10, _), (11, _), (12, _), (13, _), (14, _), (15, _), (16, _)], _⟩ (_ :: ψ) rfl rfl ?_
        refine JL_len sl22 rfl ?_
        exact JL_nil (JE_stepV rfl ss0))), OblS_V (fun vals ex ψ => (by
        refine JL_normQ ⟨48, [(7, _), (8, _), (9, _), (10, _), (11, _), (12, _), (13, _), (14, _), (15, _), (16, _)], _⟩ (_ :: ψ) rfl rfl ?_
        refine JL_lss rfl rfl ?_
        rw [decide_eq_false (p := ((k : Nat) : Int) < ((l.length : Nat) : Int)) (by omega)]
        exact JL_nil (JE_stepV rfl ss0))), OblS_V (fun vals ex ψ => (by
        refine JL_normQ ⟨48, [(7, _), (8, _), (9, _), (10, _), (11, _), (12, _), (13, _), (14, _), (15, _), (16, _)], _⟩ (_ :: ψ) rfl rfl ?_
        refine JL_move rfl ?_
        exact JL_nil (JE_stepV rfl ss0))), OblS_V (fun vals ex ψ => (by
        refine JL_normQ ⟨48, [(7, _), (8, _), (9, _), (10, _), (11, _), (12, _), (13, _), (14, _), (15, _), (16, _)], _⟩ (_ :: ψ) rfl rfl ?_
        refine JL_guard_no rfl rfl ?_
        exact JL_nil (JE_stepV rfl ss0))), OblS_V (fun vals ex ψ => (by
        refine JL_normQ ⟨48, [(7, _), (8, _), (9, _), (10, _), (11, _), (12, _), (13, _), (14, _), (15, _), (16, _)], _⟩ (_ :: ψ) rfl rfl ?_
        refine JL_guard_no rfl rfl ?_
        exact JL_nil (JE_stepV rfl ss0))), OblS_V (fun vals ex ψ => (by
        refine JL_normQ ⟨48, [(7, _), (8, _), (9, _), (10, _), (11, _), (12, _), (13, _), (14, _), (15, _), (16, _)], _⟩ (_ :: ψ) rfl rfl ?_
        refine JL_guard_no rfl rfl ?_
        exact JL_nil (JE_stepV rfl ss0))), OblS_V (fun vals ex ψ => (by
        refine JL_normQ ⟨48, [(7, _), (8, _), (9, _), (10, _), (11, _), (12, _), (13, _), (14, _), (15, _), (16, _)], _⟩ (_ :: ψ) rfl rfl ?_
        refine JL_guard_no rfl rfl ?_
        exact JL_nil (JE_stepV rfl ss0))), OblS_V (fun vals ex ψ => (by
        refine JL_normQ ⟨48, [(7, _), (8, _), (9, _), (10, _), (11, _), (12, _), (13, _), (14, _), (15, _), (16, _)], _⟩ (_ :: ψ) rfl rfl ?_
        refine JL_guard_no rfl rfl ?_
        exact JL_nil (JE_stepV rfl ss0))), trivial⟩ (by kernel_rfl) (fun vals bs => ?_)
    refine JL_normL [_, _] ⟨48, [(7, _), (8, _), (9, _), (10, _), (11, _), (12, _), (13, _), (14, _), (15, _), (16, _)], _⟩ [box _ _ [_, _]] [_] rfl rfl rfl rfl ?_
    refine JL_guard_no rfl rfl ?_
    refine JL_pick_f rfl rfl ?_
    refine JL_done_up 48 [box _ _ [_, _]] [_] rfl rfl (by simp only [nrmF]; rfl) rfl rfl ?_
    refine JC_false rfl ?_
    refine JC_exit ?_
    refine JE_then_exit ?_
    refine JE_nextS_exit ?_
    refine JE_block_exit ?_
    refine JE_then ?_
    refine JC_seq ?_
    refine JC_seq ?_
    have hs : k < l.length → ¬ ltP (l.getD k dP) p := by first | exact fun _ => hL | exact fun h => absurd h hk
    rcases eqCases l k p with ⟨hk2, he⟩ | ⟨hk2, he⟩ | hk2
    · refine JC_drawT mixed 10 [spV 21 [] _, spV 22 [] _, spV 23 [1] _, spV 24 [0, 2] _, spV 25 [3] _, spV 26 [4] _, spV 27 [4] _, spV 28 [4, 5, 6] _, spV 29 [4, 7] _, spV 30 [4] _] ⟨OblS_V (fun vals ex ψ => (by
          refine JL_normQ ⟨48, [(21, _), (22, _), (23, _), (24, _), (25, _), (26, _), (27, _), (28, _), (29, _), (30, _)], _⟩ (_ :: ψ) rfl rfl ?_
          refine JL_move rfl ?_
          exact JL_nil (JE_stepV rfl ss0))), OblS_V (fun vals ex ψ => (by
          refine JL_normQ ⟨48, [(21, _), (22, _), (23, _), (24, _), (25, _), (26, _), (27, _), (28, _), (29, _), (30, _)], _⟩ (_ :: ψ) rfl rfl ?_
          refine JL_move rfl ?_
          exact JL_nil (JE_stepV rfl ss0))), OblS_V (fun vals ex ψ => (by
          refine JL_normQ ⟨48, [(21, _), (22, _), (23, _), (24, _), (25, _), (26, _), (27, _), (28, _), (29, _), (30, _)], _⟩ (_ :: ψ) rfl rfl ?_
          refine JL_len sl22 rfl ?_
          exact JL_nil (JE_stepV rfl ss0))), OblS_V (fun vals ex ψ => (by
          refine JL_normQ ⟨48, [(21, _), (22, _), (23, _), (24, _), (25, _), (26, _), (27, _), (28, _), (29, _), (30, _)], _⟩ (_ :: ψ) rfl rfl ?_
          refine JL_lss rfl rfl ?_
          rw [decide_eq_true (p := ((k : Nat) : Int) < ((l.length : Nat) : Int)) (by omega)]
          exact JL_nil (JE_stepV rfl ss0))), OblS_V (fun vals ex ψ => (by
          refine JL_normQ ⟨48, [(21, _), (22, _), (23, _), (24, _), (25, _), (26, _), (27, _), (28, _), (29, _), (30, _)], _⟩ (_ :: ψ) rfl rfl ?_
          refine JL_move rfl ?_
          exact JL_nil (JE_stepV rfl ss0))), OblS_V (fun vals ex ψ => (by
          refine JL_normQ ⟨48, [(21, _), (22, _), (23, _), (24, _), (25, _), (26, _), (27, _), (28, _), (29, _), (30, _)], _⟩ (_ :: ψ) rfl rfl ?_
          refine JL_guard_yes rfl rfl ?_
          refine JL_move rfl ?_
          exact JL_nil (JE_stepV rfl ss0))), OblS_V (fun vals ex ψ => (by
          refine JL_normQ ⟨48, [(21, _), (22, _), (23, _), (24, _), (25, _), (26, _), (27, _), (28, _), (29, _), (30, _)], _⟩ (_ :: ψ) rfl rfl ?_
          refine JL_guard_yes rfl rfl ?_
          refine JL_move rfl ?_
          exact JL_nil (JE_stepV rfl ss0))), OblS_V (fun vals ex ψ => (by
          refine JL_normQ ⟨48, [(21, _), (22, _), (23, _), (24, _), (25, _), (26, _), (27, _), (28, _), (29, _), (30, _)], _⟩ (_ :: ψ) rfl rfl ?_
          refine JL_guard_yes rfl rfl ?_
          refine JL_indexAddr k sl22 rfl rfl rfl (by omega) (by first | exact Reads.view (by repeat (first | with_reducible exact mm0 | refine mmS ?_))) (by rw [pcells_length]; omega) ?_
          exact JL_nil (JE_stepV rfl ss0))), OblS_V (fun vals ex ψ => (by
          refine JL_normQ ⟨48, [(21, _), (22, _), (23, _), (24, _), (25, _), (26, _), (27, _), (28, _), (29, _), (30, _)], _⟩ (_ :: ψ) rfl rfl ?_
          refine JL_guard_yes rfl rfl ?_
          refine JL_loadEA (vs := [_, _]) ty51 (Nat.zero_lt_succ _) rfl (by first | exact Reads.view (by repeat (first | with_reducible exact mm0 | refine mmS ?_))) (pcells_getA (by omega)) ?_
          exact JL_nil (JE_stepV rfl ss0))), OblS_V (fun vals ex ψ => (by
          refine JL_normQ ⟨48, [(21, _), (22, _), (23, _), (24, _), (25, _), (26, _), (27, _), (28, _), (29, _), (30, _)], _⟩ (_ :: ψ) rfl rfl ?_
          refine JL_guard_yes rfl rfl ?_
          refine JL_loadA (vs := [_, _]) 0 ty51 rfl rfl ⟨rfl, rfl, trivial⟩ ?_
          exact JL_nil (JE_stepV rfl ss0))), trivial⟩ (by kernel_rfl) (fun vals bs => ?_)
      refine JL_normL [_, _] ⟨48, [(21, _), (22, _), (23, _), (24, _), (25, _), (26, _), (27, _), (28, _), (29, _), (30, _)], _⟩ [box _ _ [_, _]] [_] rfl rfl rfl rfl ?_
      refine JL_guard_yes rfl rfl ?_
      refine JL_eqlP eqPair rfl rfl ?_
      rw [decide_eq_true (p := l.getD k dP = p) he]
      refine JL_pick_t rfl rfl ?_
      refine JL_done_up 48 [box _ _ [_, _]] [_] rfl rfl (by simp only [nrmF]; rfl) rfl rfl ?_
      refine JC_true rfl ?_
      refine JC_seq ?_
      refine JC_region ?_
      refine JL_move rfl ?_
      refine JL_assign rfl ?_
      refine JL_done_up 48 [box _ _ [_, _]] [_] rfl rfl (by simp only [nrmF]; rfl) rfl rfl ?_
      refine JC_ret ?_
      refine JE_then_ret ?_
      refine JE_ret (vs := [_]) [vCells ad (pcells l)] Try.results37 ⟨rfl, rfl⟩ ?_ ?_
      · rw [insP_at (k := k) (by omega) hj hs, if_pos ⟨hk2, he⟩]; exact ⟨ad, c, rfl, hc, rfl⟩
      · exact (all_cons (by repeat (first | with_reducible exact mm0 | refine mmS ?_)) all_nil)
    · refine JC_drawT mixed 10 [spV 21 [] _, spV 22 [] _, spV 23 [1] _, spV 24 [0, 2] _, spV 25 [3] _, spV 26 [4] _, spV 27 [4] _, spV 28 [4, 5, 6] _, spV 29 [4, 7] _, spV 30 [4] _] ⟨OblS_V (fun vals ex ψ => (by
          refine JL_normQ ⟨48, [(21, _), (22, _), (23, _), (24, _), (25, _), (26, _), (27, _), (28, _), (29, _), (30, _)], _⟩ (_ :: ψ) rfl rfl ?_
          refine JL_move rfl ?_
          exact JL_nil (JE_stepV rfl ss0))), OblS_V (fun vals ex ψ => (by
          refine JL_normQ ⟨48, [(21, _), (22, _), (23, _), (24, _), (25, _), (26, _), (27, _), (28, _), (29, _), (30, _)], _⟩ (_ :: ψ) rfl rfl ?_
          refine JL_move rfl ?_
          exact JL_nil (JE_stepV rfl ss0))), OblS_V (fun vals ex ψ => (by
          refine JL_normQ ⟨48, [(21, _), (22, _), (23, _), (24, _), (25, _), (26, _), (27, _), (28, _), (29, _), (30, _)], _⟩ (_ :: ψ) rfl rfl ?_
          refine JL_len sl22 rfl ?_
          exact JL_nil (JE_stepV rfl ss0))), OblS_V (fun vals ex ψ => (by
          refine JL_normQ ⟨48, [(21, _), (22, _), (23, _), (24, _), (25, _), (26, _), (27, _), (28, _), (29, _), (30, _)], _⟩ (_ :: ψ) rfl rfl ?_
          refine JL_lss rfl rfl ?_
          rw [decide_eq_true (p := ((k : Nat) : Int) < ((l.length : Nat) : Int)) (by omega)]
          exact JL_nil (JE_stepV rfl ss0))), OblS_V (fun vals ex ψ => (by
          refine JL_normQ ⟨48, [(21, _), (22, _), (23, _), (24, _), (25, _), (26, _), (27, _), (28, _), (29, _), (30, _)], _⟩ (_ :: ψ) rfl rfl ?_
          refine JL_move rfl ?_
          exact JL_nil (JE_stepV rfl ss0))), OblS_V (fun vals ex ψ => (by
          refine JL_normQ ⟨48, [(21, _), (22, _), (23, _), (24, _), (25, _), (26, _), (27, _), (28, _), (29, _), (30, _)], _⟩ (_ :: ψ) rfl rfl ?_
          refine JL_guard_yes rfl rfl ?_
          refine JL_move rfl ?_
          exact JL_nil (JE_stepV rfl ss0))), OblS_V (fun vals ex ψ => (by
          refine JL_normQ ⟨48, [(21, _), (22, _), (23, _), (24, _), (25, _), (26, _), (27, _), (28, _), (29, _), (30, _)], _⟩ (_ :: ψ) rfl rfl ?_
          refine JL_guard_yes rfl rfl ?_
          refine JL_move rfl ?_
          exact JL_nil (JE_stepV rfl ss0))), OblS_V (fun vals ex ψ => (by
          refine JL_normQ ⟨48, [(21, _), (22, _), (23, _), (24, _), (25, _), (26, _), (27, _), (28, _), (29, _), (30, _)], _⟩ (_ :: ψ) rfl rfl ?_
          refine JL_guard_yes rfl rfl ?_
          refine JL_indexAddr k sl22 rfl rfl rfl (by omega) (by first | exact Reads.view (by repeat (first | with_reducible exact mm0 | refine mmS ?_))) (by rw [pcells_length]; omega) ?_
          exact JL_nil (JE_stepV rfl ss0))), OblS_V (fun vals ex ψ => (by
          refine JL_normQ ⟨48, [(21, _), (22, _), (23, _), (24, _), (25, _), (26, _), (27, _), (28, _), (29, _), (30, _)], _⟩ (_ :: ψ) rfl rfl ?_
          refine JL_guard_yes rfl rfl ?_
          refine JL_loadEA (vs := [_, _]) ty51 (Nat.zero_lt_succ _) rfl (by first | exact Reads.view (by repeat (first | with_reducible exact mm0 | refine mmS ?_))) (pcells_getA (by omega)) ?_
          exact JL_nil (JE_stepV rfl ss0))), OblS_V (fun vals ex ψ => (by
          refine JL_normQ ⟨48, [(21, _), (22, _), (23, _), (24, _), (25, _), (26, _), (27, _), (28, _), (29, _), (30, _)], _⟩ (_ :: ψ) rfl rfl ?_
          refine JL_guard_yes rfl rfl ?_
          refine JL_loadA (vs := [_, _]) 0 ty51 rfl rfl ⟨rfl, rfl, trivial⟩ ?_
          exact JL_nil (JE_stepV rfl ss0))), trivial⟩ (by kernel_rfl) (fun vals bs => ?_)
      refine JL_normL [_, _] ⟨48, [(21, _), (22, _), (23, _), (24, _), (25, _), (26, _), (27, _), (28, _), (29, _), (30, _)], _⟩ [box _ _ [_, _]] [_] rfl rfl rfl rfl ?_
      refine JL_guard_yes rfl rfl ?_
      refine JL_eqlP eqPair rfl rfl ?_
      rw [decide_eq_false (p := l.getD k dP = p) he]
      refine JL_pick_t rfl rfl ?_
      refine JL_done_up 48 [box _ _ [_, _]] [_] rfl rfl (by simp only [nrmF]; rfl) rfl rfl ?_
      refine JC_false rfl ?_
      refine JC_skip ?_
      refine JE_then ?_
      refine JC_seq ?_
      have hI : insP l p = l.take k ++ [p] ++ l.drop k := (insP_at (k := k) (by omega) hj hs).trans (if_neg (fun e => by first | exact he e.2 | exact hk2 e.1))
      refine JC_addView (f := true) (p := vCells ad (pcells (l.take k))) (fun w s => cellsTake k (s.views _ (show (true, vCells ad (pcells l)) ∈ _ from (by repeat (first | exact mm0 | refine mmS ?_))))) ?_
      refine JC_addView (f := true) (p := vCells (subAd ad c k 2) (pcells (l.drop k))) (fun w s => cellsDrop c k hc.1 (s.views _ (show (true, vCells ad (pcells l)) ∈ _ from (by repeat (first | exact mm0 | refine mmS ?_))))) ?_
      refine JC_region ?_
      refine JL_build0 sl22 (fun g34 => ?_)
      refine JL_move rfl ?_
      refine JL_move rfl ?_
      refine JL_sliceTo k sl22 rfl rfl (by omega) (by omega) ?_
      refine JL_append (news := pcells (l.take k)) 1 sl22 rfl (by decide) rfl rfl rfl (by rw [pcells_length, List.length_take]; omega) (Reads.view (by repeat (first | with_reducible exact mm0 | refine mmS ?_))) (allOne_pcells _) (by omega) (by omega) (fun ad38 cap38 hc38 => ?_)
      refine JL_norm _ [box _ _ [_, _], osl _ _ _ _ _ _] [_, _, _] rfl rfl rfl ?_
      refine JL_assign rfl ?_
      refine JL_done_up 48 [box _ _ [_, _], osl _ _ _ _ _ _] [_, _, _] rfl rfl (by simp only [nrmF]; rfl) rfl rfl ?_
      refine JC_seq ?_
      refine JC_region ?_
      refine JL_move rfl ?_
      refine JL_loadA (vs := [_, _]) 0 ty51 rfl rfl ⟨rfl, rfl, trivial⟩ ?_
      refine JL_buildN (cs0 := [.int .i64 0, .int .i64 0]) (cs := [_, _]) [(0, [_, _])] sl22 (by kernel_rfl) ⟨⟨rfl, _, rfl, rfl⟩, rfl⟩ rfl rfl rfl rfl (fun g41 => ?_)
      refine JL_append (news := [_, _]) 1 sl22 rfl (by decide) rfl rfl rfl rfl (Reads.own 2 rfl) (AllOne.cons rfl (AllOne.cons rfl AllOne.nil)) (by omega) (by omega) (fun ad42 cap42 hc42 => ?_)
      refine JL_dropAt 2 ?_
      refine JL_norm _ [box _ _ [_, _], osl _ _ _ _ _ _] [_, _, _] rfl rfl rfl ?_
      refine JL_assign rfl ?_
      refine JL_done_up 48 [box _ _ [_, _], osl _ _ _ _ _ _] [_, _, _] rfl rfl (by simp only [nrmF]; rfl) rfl rfl ?_
      refine JC_seq ?_
      refine JC_region ?_
      refine JL_move rfl ?_
      refine JL_move rfl ?_
      refine JL_move rfl ?_
      refine JL_slice k l.length c sl22 rfl (.some rfl rfl) .none .none (.inl rfl) (by omega) hc.1 (by omega) ?_
      refine JL_append (news := pcells (l.drop k)) 1 sl22 rfl (by decide) rfl rfl rfl (by rw [pcells_length, List.length_drop]) (Reads.view (by repeat (first | with_reducible exact mm0 | refine mmS ?_))) (allOne_pcells _) (by omega) (by omega) (fun ad47 cap47 hc47 => ?_)
      refine JL_norm _ [box _ _ [_, _], osl _ _ _ _ _ _] [_, _, _] rfl rfl rfl ?_
      rw [show 0 + k + 1 + (l.length - k) = (insP l p).length from by rw [hI]; simp only [List.length_append, List.length_take, List.length_drop, List.length_cons, List.length_nil]; omega, show ([] ++ pcells (l.take k)) ++ pc p ++ pcells (l.drop k) = pcells (insP l p) from by rw [hI, pcells_app, pcells_app]; rfl]
      refine JL_assign rfl ?_
      refine JL_done_up 48 [box _ _ [_, _], osl _ _ _ _ _ _] [_, _, _] rfl rfl (by simp only [nrmF]; rfl) rfl rfl ?_
      refine JC_ret ?_
      refine JE_give 1 rfl ?_
      refine JE_norm _ [box _ _ [_, _]] [_, _, _, _] rfl rfl rfl ?_
      refine JE_ret (vs := [_]) [vCells ad47 (pcells (insP l p))] Try.results37 ⟨rfl, rfl⟩ ?_ ?_
      · exact ⟨ad47, cap47, rfl, by rw [show (insP l p).length = 0 + k + 1 + (l.length - k) from by rw [hI]; simp only [List.length_append, List.length_take, List.length_drop, List.length_cons, List.length_nil]; omega]; exact hc47, rfl⟩
      · exact (all_cons (by repeat (first | with_reducible exact mm0 | refine mmS ?_)) all_nil)
    · refine JC_drawT mixed 10 [spV 21 [] _, spV 22 [] _, spV 23 [1] _, spV 24 [0, 2] _, spV 25 [3] _, spV 26 [4] _, spV 27 [4] _, spV 28 [4, 5, 6] _, spV 29 [4, 7] _, spV 30 [4] _] ⟨OblS_V (fun vals ex ψ => (by
          refine JL_normQ ⟨48, [(21, _), (22, _), (23, _), (24, _), (25, _), (26, _), (27, _), (28, _), (29, _), (30, _)], _⟩ (_ :: ψ) rfl rfl ?_
          refine JL_move rfl ?_
          exact JL_nil (JE_stepV rfl ss0))), OblS_V (fun vals ex ψ => (by
          refine JL_normQ ⟨48, [(21, _), (22, _), (23, _), (24, _), (25, _), (26, _), (27, _), (28, _), (29, _), (30, _)], _⟩ (_ :: ψ) rfl rfl ?_
          refine JL_move rfl ?_
          exact JL_nil (JE_stepV rfl ss0))), OblS_V (fun vals ex ψ => (by
          refine JL_normQ ⟨48, [(21, _), (22, _), (23, _), (24, _), (25, _), (26, _), (27, _), (28, _), (29, _), (30, _)], _⟩ (_ :: ψ) rfl rfl ?_
          refine JL_len sl22 rfl ?_
          exact JL_nil (JE_stepV rfl ss0))), OblS_V (fun vals ex ψ => (by
          refine JL_normQ ⟨48, [(21, _), (22, _), (23, _), (24, _), (25, _), (26, _), (27, _), (28, _), (29, _), (30, _)], _⟩ (_ :: ψ) rfl rfl ?_
          refine JL_lss rfl rfl ?_
          rw [decide_eq_false (p := ((k : Nat) : Int) < ((l.length : Nat) : Int)) (by omega)]
          exact JL_nil (JE_stepV rfl ss0))), OblS_V (fun vals ex ψ => (by
          refine JL_normQ ⟨48, [(21, _), (22, _), (23, _), (24, _), (25, _), (26, _), (27, _), (28, _), (29, _), (30, _)], _⟩ (_ :: ψ) rfl rfl ?_
          refine JL_move rfl ?_
          exact JL_nil (JE_stepV rfl ss0))), OblS_V (fun vals ex ψ => (by
          refine JL_normQ ⟨48, [(21, _), (22, _), (23, _), (24, _), (25, _), (26, _), (27, _), (28, _), (29, _), (30, _)], _⟩ (_ :: ψ) rfl rfl ?_
          refine JL_guard_no rfl rfl ?_
          exact JL_nil (JE_stepV rfl ss0))), OblS_V (fun vals ex ψ => (by
          refine JL_normQ ⟨48, [(21, _), (22, _), (23, _), (24, _), (25, _), (26, _), (27, _), (28, _), (29, _), (30, _)], _⟩ (_ :: ψ) rfl rfl ?_
          refine JL_guard_no rfl rfl ?_
          exact JL_nil (JE_stepV rfl ss0))), OblS_V (fun vals ex ψ => (by
          refine JL_normQ ⟨48, [(21, _), (22, _), (23, _), (24, _), (25, _), (26, _), (27, _), (28, _), (29, _), (30, _)], _⟩ (_ :: ψ) rfl rfl ?_
          refine JL_guard_no rfl rfl ?_
          exact JL_nil (JE_stepV rfl ss0))), OblS_V (fun vals ex ψ => (by
          refine JL_normQ ⟨48, [(21, _), (22, _), (23, _), (24, _), (25, _), (26, _), (27, _), (28, _), (29, _), (30, _)], _⟩ (_ :: ψ) rfl rfl ?_
          refine JL_guard_no rfl rfl ?_
          exact JL_nil (JE_stepV rfl ss0))), OblS_V (fun vals ex ψ => (by
          refine JL_normQ ⟨48, [(21, _), (22, _), (23, _), (24, _), (25, _), (26, _), (27, _), (28, _), (29, _), (30, _)], _⟩ (_ :: ψ) rfl rfl ?_
          refine JL_guard_no rfl rfl ?_
          exact JL_nil (JE_stepV rfl ss0))), trivial⟩ (by kernel_rfl) (fun vals bs => ?_)
      refine JL_normL [_, _] ⟨48, [(21, _), (22, _), (23, _), (24, _), (25, _), (26, _), (27, _), (28, _), (29, _), (30, _)], _⟩ [box _ _ [_, _]] [_] rfl rfl rfl rfl ?_
      refine JL_guard_no rfl rfl ?_
      refine JL_pick_f rfl rfl ?_
      refine JL_done_up 48 [box _ _ [_, _]] [_] rfl rfl (by simp only [nrmF]; rfl) rfl rfl ?_
      refine JC_false rfl ?_
      refine JC_skip ?_
      refine JE_then ?_
      refine JC_seq ?_
      have hI : insP l p = l.take k ++ [p] ++ l.drop k := (insP_at (k := k) (by omega) hj hs).trans (if_neg (fun e => by first | exact he e.2 | exact hk2 e.1))
      refine JC_addView (f := true) (p := vCells ad (pcells (l.take k))) (fun w s => cellsTake k (s.views _ (show (true, vCells ad (pcells l)) ∈ _ from (by repeat (first | exact mm0 | refine mmS ?_))))) ?_
      refine JC_addView (f := true) (p := vCells (subAd ad c k 2) (pcells (l.drop k))) (fun w s => cellsDrop c k hc.1 (s.views _ (show (true, vCells ad (pcells l)) ∈ _ from (by repeat (first | exact mm0 | refine mmS ?_))))) ?_
      refine JC_region ?_
      refine JL_build0 sl22 (fun g34 => ?_)
      refine JL_move rfl ?_
      refine JL_move rfl ?_
      refine JL_sliceTo k sl22 rfl rfl (by omega) (by omega) ?_
      refine JL_append (news := pcells (l.take k)) 1 sl22 rfl (by decide) rfl rfl rfl (by rw [pcells_length, List.length_take]; omega) (Reads.view (by repeat (first | with_reducible exact mm0 | refine mmS ?_))) (allOne_pcells _) (by omega) (by omega) (fun ad38 cap38 hc38 => ?_)
      refine JL_norm _ [box _ _ [_, _], osl _ _ _ _ _ _] [_, _, _] rfl rfl rfl ?_
      refine JL_assign rfl ?_
      refine JL_done_up 48 [box _ _ [_, _], osl _ _ _ _ _ _] [_, _, _] rfl rfl (by simp only [nrmF]; rfl) rfl rfl ?_
      refine JC_seq ?_
      refine JC_region ?_
      refine JL_move rfl ?_
      refine JL_loadA (vs := [_, _]) 0 ty51 rfl rfl ⟨rfl, rfl, trivial⟩ ?_
      refine JL_buildN (cs0 := [.int .i64 0, .int .i64 0]) (cs := [_, _]) [(0, [_, _])] sl22 (by kernel_rfl) ⟨⟨rfl, _, rfl, rfl⟩, rfl⟩ rfl rfl rfl rfl (fun g41 => ?_)
      refine JL_append (news := [_, _]) 1 sl22 rfl (by decide) rfl rfl rfl rfl (Reads.own 2 rfl) (AllOne.cons rfl (AllOne.cons rfl AllOne.nil)) (by omega) (by omega) (fun ad42 cap42 hc42 => ?_)
      refine JL_dropAt 2 ?_
      refine JL_norm _ [box _ _ [_, _], osl _ _ _ _ _ _] [_, _, _] rfl rfl rfl ?_
      refine JL_assign rfl ?_
      refine JL_done_up 48 [box _ _ [_, _], osl _ _ _ _ _ _] [_, _, _] rfl rfl (by simp only [nrmF]; rfl) rfl rfl ?_
      refine JC_seq ?_
      refine JC_region ?_
      refine JL_move rfl ?_
      refine JL_move rfl ?_
      refine JL_move rfl ?_
      refine JL_slice k l.length c sl22 rfl (.some rfl rfl) .none .none (.inl rfl) (by omega) hc.1 (by omega) ?_
      refine JL_append (news := pcells (l.drop k)) 1 sl22 rfl (by decide) rfl rfl rfl (by rw [pcells_length, List.length_drop]) (Reads.view (by repeat (first | with_reducible exact mm0 | refine mmS ?_))) (allOne_pcells _) (by omega) (by omega) (fun ad47 cap47 hc47 => ?_)
      refine JL_norm _ [box _ _ [_, _], osl _ _ _ _ _ _] [_, _, _] rfl rfl rfl ?_
      rw [show 0 + k + 1 + (l.length - k) = (insP l p).length from by rw [hI]; simp only [List.length_append, List.length_take, List.length_drop, List.length_cons, List.length_nil]; omega, show ([] ++ pcells (l.take k)) ++ pc p ++ pcells (l.drop k) = pcells (insP l p) from by rw [hI, pcells_app, pcells_app]; rfl]
      refine JL_assign rfl ?_
      refine JL_done_up 48 [box _ _ [_, _], osl _ _ _ _ _ _] [_, _, _] rfl rfl (by simp only [nrmF]; rfl) rfl rfl ?_
      refine JC_ret ?_
      refine JE_give 1 rfl ?_
      refine JE_norm _ [box _ _ [_, _]] [_, _, _, _] rfl rfl rfl ?_
      refine JE_ret (vs := [_]) [vCells ad47 (pcells (insP l p))] Try.results37 ⟨rfl, rfl⟩ ?_ ?_
      · exact ⟨ad47, cap47, rfl, by rw [show (insP l p).length = 0 + k + 1 + (l.length - k) from by rw [hI]; simp only [List.length_append, List.length_take, List.length_drop, List.length_cons, List.length_nil]; omega]; exact hc47, rfl⟩
      · exact (all_cons (by repeat (first | with_reducible exact mm0 | refine mmS ?_)) all_nil)

theorem look_con {ad : Option Addr} {c : Nat} {l : List Pr} {n : Int} (hln : l.length ≤ 1000000) :
    ConF Try.prog 18 [.slice ad l.length c, .int .i64 n] [vCells ad (pcells l)]
      (SPI (lukR l n) (valE l)) := by
  refine ConF_of Try.func18 rfl 29 _ rfl rfl ?_
  intro w0
  refine JC_norm ⟨29, [], [_, _, _, _, _, _, _, _, _, _, _, _, _, _, _, _, _, _, _, _, _, _, _, _, _, _, _, _, _]⟩ [] [_] rfl rfl rfl ?_
  refine JC_seq ?_
  refine JC_region ?_
  refine JL_assign rfl ?_
  refine JL_assign rfl ?_
  refine JL_done_up 29 [] [_] rfl rfl (by simp only [nrmF]; rfl) rfl rfl ?_
  refine JC_seq ?_
  refine JC_seq ?_
  refine JC_region ?_
  refine JL_move rfl ?_
  refine JL_callF' (Asks.cons (holds_of_mem (by repeat (first | with_reducible exact mm0 | refine mmS ?_))) Asks.nil) (valid_con (by omega)) rfl ca24 ⟨rfl, rfl⟩ ?_
  rintro _ _ ⟨rfl, rfl⟩
  refine JL_split (fun h10 => ?_) (fun h10 => ?_)
  · refine JL_not rfl ?_
    rw [Bool.not_true]
    refine JL_done_up 29 [] [_] rfl rfl (by simp only [nrmF]; rfl) rfl rfl ?_
    refine JC_false rfl ?_
    refine JC_skip ?_
    refine JE_then ?_
    refine JC_seq ?_
    refine JC_region ?_
    refine JL_assign rfl ?_
    refine JL_done_up 29 [] [_] rfl rfl (by simp only [nrmF]; rfl) rfl rfl ?_
    refine JC_seq ?_
    refine JC_seq ?_
    refine JC_region ?_
    refine JL_move rfl ?_
    refine JL_len sl22 rfl ?_
    refine JL_move rfl ?_
    refine JL_done_up 29 [] [_] rfl rfl (by simp only [nrmF]; rfl) rfl rfl ?_
    refine JC_block ?_
    refine JC_addNil 3 1 ?_
    refine JC_norm ⟨29, [], [_, _, _, _, _, _, _, _, _, _, _, _, _, _, _, _, _, _, _, _, _, _, _, _, _, _, _, _, _]⟩ [osl _ _ _ _ _ _] [_] rfl rfl rfl ?_
    refine JC_loopS ((Nat) × (List Int) × (Option Addr) × (Nat) × (Nat)) (fun (i, r, ad2, cap2, n2) => i ≤ l.length ∧ lukL l n i = r ∧ r.length = n2 ∧ n2 ≤ i ∧ n2 ≤ cap2 ∧ cap2 ≤ 9223372036854775807) (fun (i, r, ad2, cap2, n2) => l.length - i) (fun u (i, r, ad2, cap2, n2) => [none, none, none, none, none, none, some (.slice ad2 n2 cap2), none, some (u 8), none, none, none, none, none, some (.int .i64 (i : Nat)), some (u 15), some (u 16), some (u 17), some (u 18), some (u 19), some (u 20), some (u 21), some (u 22), some (u 23), some (u 24), some (u 25), some (u 26), some (u 27), none]) (fun (i, r, ad2, cap2, n2) => [some (osl ad2 n2 cap2 3 1 (i64s r))]) (fun (i, r, ad2, cap2, n2) => []) (0, [], none, 0, 0) (by kernel_rfl) ?_ (by kernel_rfl) ?_ ?_
    · exact ⟨Nat.zero_le _, rfl, rfl, Nat.le_refl _, Nat.le_refl _, Nat.zero_le _⟩
    · exact subset_nil
    intro u i hC
    obtain ⟨i, r, ad2, cap2, n2⟩ := i
    obtain ⟨hi, hr, hn2, hni, hcp⟩ := hC
    refine JC_norm ⟨29, [], [_, _, _, _, _, _, _, _, _, _, _, _, _, _, _, _, _, _, _, _, _, _, _, _, _, _, _, _, _]⟩ [osl _ _ _ _ _ _] [_] rfl rfl rfl ?_
    refine JC_seq ?_
    refine JC_region ?_
    refine JL_lss rfl rfl ?_
    refine JL_split (fun h15 => ?_) (fun h15 => ?_)
    · refine JL_done_up 29 [osl _ _ _ _ _ _] [_] rfl rfl (by simp only [nrmF]; rfl) rfl rfl ?_
      refine JC_seq ?_
      refine JC_true rfl ?_
      refine JC_skip ?_
      refine JE_then ?_
      refine JC_seq ?_
      refine JC_block ?_
      refine JC_seq ?_
      refine JC_region ?_
      refine JL_indexAddr i sl22 rfl rfl rfl (by omega) (by first | exact Reads.view (by repeat (first | with_reducible exact mm0 | refine mmS ?_)) | (exact Reads.own 0 rfl)) (by rw [pcells_length]; omega) ?_
      refine JL_loadEA (vs := [_, _]) ty51 (Nat.zero_lt_succ _) rfl (by first | exact Reads.view (by repeat (first | with_reducible exact mm0 | refine mmS ?_)) | (exact Reads.own 0 rfl)) (pcells_getA (by omega)) ?_
      refine JL_alloc z51 (fun b8 => ?_)
      refine JL_store (vs := [_, _]) 1 ty51 rfl rfl rfl (AllOne.cons rfl (AllOne.cons rfl AllOne.nil)) rfl (Nat.le_of_ble_eq_true rfl) ?_
      refine JL_done_up 29 [osl _ _ _ _ _ _, box _ _ [_, _]] [_] rfl rfl (by simp only [nrmF]; rfl) rfl rfl ?_
      refine JC_seq ?_
      refine JC_region ?_
      refine JL_fieldAddr fo51_0 rfl ?_
      refine JL_load 1 ty3 rfl rfl rfl ?_
      refine JL_move rfl ?_
      refine JL_eql rfl rfl ?_
      refine JL_split (fun h21 => ?_) (fun h21 => ?_)
      · refine JL_done_up 29 [osl _ _ _ _ _ _, box _ _ [_, _]] [_] rfl rfl (by simp only [nrmF]; rfl) rfl rfl ?_
        refine JC_true rfl ?_
        refine JC_region ?_
        refine JL_move rfl ?_
        refine JL_fieldAddr fo51_1 rfl ?_
        refine JL_load 1 ty3 rfl rfl rfl ?_
        refine JL_build1 sl28 rfl rfl (fun g25 => ?_)
        refine JL_appendI (L := _) 0 2 sl28 rfl rfl rfl rfl (by omega) (by omega) (fun ad26 cap26 hc26 => ?_)
        refine JL_dropAt 2 ?_
        refine JL_norm _ [osl _ _ _ _ _ _, box _ _ [_, _]] [_] rfl rfl rfl ?_
        refine JL_assign rfl ?_
        refine JL_nil_up 29 [osl _ _ _ _ _ _, box _ _ [_, _]] [_] rfl rfl (by simp only [nrmF]; rfl) rfl rfl ?_
        refine JE_block_normal ?_
        refine JE_then ?_
        refine JC_region ?_
        refine JL_add_to rfl rfl (IntWalk.i64_in _ (by omega)) ?_
        refine JL_move rfl ?_
        refine JL_nil_up 29 [osl _ _ _ _ _ _, box _ _ [_, _]] [_] rfl rfl (by simp only [nrmF]; rfl) rfl rfl ?_
        refine JE_dropAt 1 ?_
        refine JE_norm _ [osl _ _ _ _ _ _] [_] rfl rfl rfl ?_
        refine JE_nextS (i + 1, r ++ [(l.getD i dP).2], ad26, cap26, n2 + 1) (by kernel_rfl) ?_ ?_ (by kernel_rfl) ?_
        · exact ⟨by omega, by rw [lukL, if_pos h21, hr], by rw [List.length_append, hn2]; rfl, by omega, by omega, by omega⟩
        · first | omega | (dsimp only; omega)
        · exact subset_app subset_nil ss0
      · refine JL_done_up 29 [osl _ _ _ _ _ _, box _ _ [_, _]] [_] rfl rfl (by simp only [nrmF]; rfl) rfl rfl ?_
        refine JC_false rfl ?_
        refine JC_skip ?_
        refine JE_block_normal ?_
        refine JE_then ?_
        refine JC_region ?_
        refine JL_add_to rfl rfl (IntWalk.i64_in _ (by omega)) ?_
        refine JL_move rfl ?_
        refine JL_nil_up 29 [osl _ _ _ _ _ _, box _ _ [_, _]] [_] rfl rfl (by simp only [nrmF]; rfl) rfl rfl ?_
        refine JE_dropAt 1 ?_
        refine JE_norm _ [osl _ _ _ _ _ _] [_] rfl rfl rfl ?_
        refine JE_nextS (i + 1, r, ad2, cap2, n2) (by kernel_rfl) ?_ ?_ (by kernel_rfl) ?_
        · exact ⟨by omega, by rw [lukL, if_neg h21, hr], hn2, by omega, hcp.1, hcp.2⟩
        · first | omega | (dsimp only; omega)
        · exact subset_app subset_nil ss0
    · refine JL_done_up 29 [osl _ _ _ _ _ _] [_] rfl rfl (by simp only [nrmF]; rfl) rfl rfl ?_
      refine JC_seq ?_
      refine JC_false rfl ?_
      refine JC_exit ?_
      refine JE_then_exit ?_
      refine JE_nextS_exit ?_
      refine JE_block_exit ?_
      refine JE_then ?_
      refine JC_seq ?_
      refine JC_region ?_
      refine JL_move rfl ?_
      refine JL_assign rfl ?_
      refine JL_assign rfl ?_
      refine JL_done_up 29 [osl _ _ _ _ _ _] [_] rfl rfl (by simp only [nrmF]; rfl) rfl rfl ?_
      refine JC_ret ?_
      have hie : i = l.length := by omega
      subst hie
      subst hn2
      refine JE_give 0 rfl ?_
      refine JE_norm _ [] [_, _] rfl rfl rfl ?_
      refine JE_ret (vs := [_, _]) [vCells ad2 (i64s r)] Try.results18 ⟨rfl, rfl, rfl⟩ ?_ ?_
      · rw [lukR_ok h10, valE_ok h10, hr]; exact ⟨ad2, cap2, rfl, hcp, rfl⟩
      · exact (all_cons (by repeat (first | with_reducible exact mm0 | refine mmS ?_)) all_nil)
  · refine JL_not rfl ?_
    rw [Bool.not_false]
    refine JL_done_up 29 [] [_] rfl rfl (by simp only [nrmF]; rfl) rfl rfl ?_
    refine JC_true rfl ?_
    refine JC_seq ?_
    refine JC_region ?_
    refine JL_assign rfl ?_
    refine JL_assign rfl ?_
    refine JL_done_up 29 [] [_] rfl rfl (by simp only [nrmF]; rfl) rfl rfl ?_
    refine JC_ret ?_
    refine JE_then_ret ?_
    refine JE_addView (f := true) (p := vCells none (i64s [])) (fun _ _ => nilI) ?_
    refine JE_ret (vs := [_, _]) [vCells none (i64s [])] Try.results18 ⟨rfl, rfl, rfl⟩ ?_ ?_
    · rw [lukR_no h10, valE_no h10]; exact ⟨none, 0, rfl, ⟨Nat.le_refl _, Nat.zero_le _⟩, rfl⟩
    · exact (all_cons (by repeat (first | with_reducible exact mm0 | refine mmS ?_)) all_nil)

theorem rlook_con {ad : Option Addr} {c : Nat} {l : List Pr} {n : Int} (hln : l.length ≤ 1000000) :
    ConF Try.prog 19 [.slice ad l.length c, .int .i64 n] [vCells ad (pcells l)]
      (SPI (lukR l n) (valE l)) := by
  refine ConF_of Try.func19 rfl 33 _ rfl rfl ?_
  intro w0
  refine JC_norm ⟨33, [], [_, _, _, _, _, _, _, _, _, _, _, _, _, _, _, _, _, _, _, _, _, _, _, _, _, _, _, _, _, _, _, _, _]⟩ [] [_] rfl rfl rfl ?_
  refine JC_seq ?_
  refine JC_region ?_
  refine JL_assign rfl ?_
  refine JL_assign rfl ?_
  refine JL_done_up 33 [] [_] rfl rfl (by simp only [nrmF]; rfl) rfl rfl ?_
  refine JC_seq ?_
  refine JC_seq ?_
  refine JC_region ?_
  refine JL_move rfl ?_
  refine JL_callF' (Asks.cons (holds_of_mem (by repeat (first | with_reducible exact mm0 | refine mmS ?_))) Asks.nil) (rvalid_con (by omega)) rfl ca25 ⟨rfl, rfl⟩ ?_
  rintro _ _ ⟨rfl, rfl⟩
  refine JL_split (fun h9 => ?_) (fun h9 => ?_)
  · refine JL_not rfl ?_
    rw [Bool.not_true]
    refine JL_done_up 33 [] [_] rfl rfl (by simp only [nrmF]; rfl) rfl rfl ?_
    refine JC_false rfl ?_
    refine JC_skip ?_
    refine JE_then ?_
    refine JC_seq ?_
    refine JC_region ?_
    refine JL_assign rfl ?_
    refine JL_done_up 33 [] [_] rfl rfl (by simp only [nrmF]; rfl) rfl rfl ?_
    refine JC_seq ?_
    refine JC_seq ?_
    refine JC_region ?_
    refine JL_assign rfl ?_
    refine JL_done_up 33 [] [_] rfl rfl (by simp only [nrmF]; rfl) rfl rfl ?_
    refine JC_block ?_
    refine JC_addNil 3 1 ?_
    refine JC_norm ⟨33, [], [_, _, _, _, _, _, _, _, _, _, _, _, _, _, _, _, _, _, _, _, _, _, _, _, _, _, _, _, _, _, _, _, _]⟩ [osl _ _ _ _ _ _] [_] rfl rfl rfl ?_
    refine JC_loopS ((Nat) × (List Int) × (Option Addr) × (Nat) × (Nat)) (fun (i, r, ad2, cap2, n2) => i ≤ l.length ∧ lukL l n i = r ∧ r.length = n2 ∧ n2 ≤ i ∧ n2 ≤ cap2 ∧ cap2 ≤ 9223372036854775807) (fun (i, r, ad2, cap2, n2) => l.length - i) (fun u (i, r, ad2, cap2, n2) => [none, none, none, none, none, none, some (.slice ad2 n2 cap2), some (.int .i64 (i : Nat)), none, none, none, some (u 11), some (u 12), some (u 13), some (u 14), some (u 15), some (u 16), some (u 17), some (u 18), some (u 19), some (u 20), some (u 21), some (u 22), some (u 23), some (u 24), some (u 25), some (u 26), some (u 27), some (u 28), some (u 29), some (u 30), some (u 31), none]) (fun (i, r, ad2, cap2, n2) => [some (osl ad2 n2 cap2 3 1 (i64s r))]) (fun (i, r, ad2, cap2, n2) => []) (0, [], none, 0, 0) (by kernel_rfl) ?_ (by kernel_rfl) ?_ ?_
    · exact ⟨Nat.zero_le _, rfl, rfl, Nat.le_refl _, Nat.le_refl _, Nat.zero_le _⟩
    · exact subset_nil
    intro u i hC
    obtain ⟨i, r, ad2, cap2, n2⟩ := i
    obtain ⟨hi, hr, hn2, hni, hcp⟩ := hC
    refine JC_norm ⟨33, [], [_, _, _, _, _, _, _, _, _, _, _, _, _, _, _, _, _, _, _, _, _, _, _, _, _, _, _, _, _, _, _, _, _]⟩ [osl _ _ _ _ _ _] [_] rfl rfl rfl ?_
    refine JC_seq ?_
    refine JC_seq ?_
    refine JC_region ?_
    refine JL_move rfl ?_
    refine JL_move rfl ?_
    refine JL_len sl22 rfl ?_
    refine JL_lss rfl rfl ?_
    refine JL_split (fun h14 => ?_) (fun h14 => ?_)
    · refine JL_done_up 33 [osl _ _ _ _ _ _] [_] rfl rfl (by simp only [nrmF]; rfl) rfl rfl ?_
      refine JC_true rfl ?_
      refine JC_skip ?_
      refine JE_then ?_
      refine JC_seq ?_
      refine JC_block ?_
      refine JC_seq ?_
      refine JC_region ?_
      refine JL_move rfl ?_
      refine JL_move rfl ?_
      refine JL_indexAddr i sl22 rfl rfl rfl (by omega) (by first | exact Reads.view (by repeat (first | with_reducible exact mm0 | refine mmS ?_)) | (exact Reads.own 0 rfl)) (by rw [pcells_length]; omega) ?_
      refine JL_fieldAddrE fo51_0 rfl (by first | exact Reads.view (by repeat (first | with_reducible exact mm0 | refine mmS ?_)) | (exact Reads.own 0 rfl)) (by rw [pcells_length]; omega) ?_
      refine JL_loadE ty3 rfl (by first | exact Reads.view (by repeat (first | with_reducible exact mm0 | refine mmS ?_)) | (exact Reads.own 0 rfl)) (pcells_one (by omega)).1 ?_
      refine JL_move rfl ?_
      refine JL_eql rfl rfl ?_
      refine JL_split (fun h23 => ?_) (fun h23 => ?_)
      · refine JL_done_up 33 [osl _ _ _ _ _ _] [_] rfl rfl (by simp only [nrmF]; rfl) rfl rfl ?_
        refine JC_true rfl ?_
        refine JC_region ?_
        refine JL_move rfl ?_
        refine JL_move rfl ?_
        refine JL_move rfl ?_
        refine JL_indexAddr i sl22 rfl rfl rfl (by omega) (by first | exact Reads.view (by repeat (first | with_reducible exact mm0 | refine mmS ?_)) | (exact Reads.own 0 rfl)) (by rw [pcells_length]; omega) ?_
        refine JL_fieldAddrE fo51_1 rfl (by first | exact Reads.view (by repeat (first | with_reducible exact mm0 | refine mmS ?_)) | (exact Reads.own 0 rfl)) (by rw [pcells_length]; omega) ?_
        refine JL_loadE ty3 rfl (by first | exact Reads.view (by repeat (first | with_reducible exact mm0 | refine mmS ?_)) | (exact Reads.own 0 rfl)) (pcells_one (by omega)).2 ?_
        refine JL_build1 sl28 rfl rfl (fun g30 => ?_)
        refine JL_appendI (L := _) 0 1 sl28 rfl rfl rfl rfl (by omega) (by omega) (fun ad31 cap31 hc31 => ?_)
        refine JL_dropAt 1 ?_
        refine JL_norm _ [osl _ _ _ _ _ _] [_] rfl rfl rfl ?_
        refine JL_assign rfl ?_
        refine JL_nil_up 33 [osl _ _ _ _ _ _] [_] rfl rfl (by simp only [nrmF]; rfl) rfl rfl ?_
        refine JE_block_normal ?_
        refine JE_then ?_
        refine JC_region ?_
        refine JL_move rfl ?_
        refine JL_add_to rfl rfl (IntWalk.i64_in _ (by omega)) ?_
        refine JL_assign rfl ?_
        refine JL_nil_up 33 [osl _ _ _ _ _ _] [_] rfl rfl (by simp only [nrmF]; rfl) rfl rfl ?_
        refine JE_nextS (i + 1, r ++ [(l.getD i dP).2], ad31, cap31, n2 + 1) (by kernel_rfl) ?_ ?_ (by kernel_rfl) ?_
        · exact ⟨by omega, by rw [lukL, if_pos h23, hr], by rw [List.length_append, hn2]; rfl, by omega, by omega, by omega⟩
        · first | omega | (dsimp only; omega)
        · exact subset_app subset_nil ss0
      · refine JL_done_up 33 [osl _ _ _ _ _ _] [_] rfl rfl (by simp only [nrmF]; rfl) rfl rfl ?_
        refine JC_false rfl ?_
        refine JC_skip ?_
        refine JE_block_normal ?_
        refine JE_then ?_
        refine JC_region ?_
        refine JL_move rfl ?_
        refine JL_add_to rfl rfl (IntWalk.i64_in _ (by omega)) ?_
        refine JL_assign rfl ?_
        refine JL_nil_up 33 [osl _ _ _ _ _ _] [_] rfl rfl (by simp only [nrmF]; rfl) rfl rfl ?_
        refine JE_nextS (i + 1, r, ad2, cap2, n2) (by kernel_rfl) ?_ ?_ (by kernel_rfl) ?_
        · exact ⟨by omega, by rw [lukL, if_neg h23, hr], hn2, by omega, hcp.1, hcp.2⟩
        · first | omega | (dsimp only; omega)
        · exact subset_app subset_nil ss0
    · refine JL_done_up 33 [osl _ _ _ _ _ _] [_] rfl rfl (by simp only [nrmF]; rfl) rfl rfl ?_
      refine JC_false rfl ?_
      refine JC_exit ?_
      refine JE_then_exit ?_
      refine JE_nextS_exit ?_
      refine JE_block_exit ?_
      refine JE_then ?_
      refine JC_seq ?_
      refine JC_region ?_
      refine JL_move rfl ?_
      refine JL_assign rfl ?_
      refine JL_assign rfl ?_
      refine JL_done_up 33 [osl _ _ _ _ _ _] [_] rfl rfl (by simp only [nrmF]; rfl) rfl rfl ?_
      refine JC_ret ?_
      have hie : i = l.length := by omega
      subst hie
      subst hn2
      refine JE_give 0 rfl ?_
      refine JE_norm _ [] [_, _] rfl rfl rfl ?_
      refine JE_ret (vs := [_, _]) [vCells ad2 (i64s r)] Try.results19 ⟨rfl, rfl, rfl⟩ ?_ ?_
      · rw [lukR_ok h9, valE_ok h9, hr]; exact ⟨ad2, cap2, rfl, hcp, rfl⟩
      · exact (all_cons (by repeat (first | with_reducible exact mm0 | refine mmS ?_)) all_nil)
  · refine JL_not rfl ?_
    rw [Bool.not_false]
    refine JL_done_up 33 [] [_] rfl rfl (by simp only [nrmF]; rfl) rfl rfl ?_
    refine JC_true rfl ?_
    refine JC_seq ?_
    refine JC_region ?_
    refine JL_assign rfl ?_
    refine JL_assign rfl ?_
    refine JL_done_up 33 [] [_] rfl rfl (by simp only [nrmF]; rfl) rfl rfl ?_
    refine JC_ret ?_
    refine JE_then_ret ?_
    refine JE_addView (f := true) (p := vCells none (i64s [])) (fun _ _ => nilI) ?_
    refine JE_ret (vs := [_, _]) [vCells none (i64s [])] Try.results19 ⟨rfl, rfl, rfl⟩ ?_ ?_
    · rw [lukR_no h9, valE_no h9]; exact ⟨none, 0, rfl, ⟨Nat.le_refl _, Nat.zero_le _⟩, rfl⟩
    · exact (all_cons (by repeat (first | with_reducible exact mm0 | refine mmS ?_)) all_nil)

theorem bpairs_con {ad1 ad2 : Option Addr} {c1 c2 : Nat} {l : List Pr} (hln : l.length ≤ 1000000) :
    ConF Try.prog 20 [.slice ad1 l.length c1, .slice ad2 l.length c2] [vCells ad1 (pcells l), vCells ad2 (pcells l)]
      (fun v φo => v = .bool (true) ∧ φo = []) := by
  refine ConF_of Try.func20 rfl 26 _ rfl rfl ?_
  intro w0
  refine JC_norm ⟨26, [], [_, _, _, _, _, _, _, _, _, _, _, _, _, _, _, _, _, _, _, _, _, _, _, _, _, _]⟩ [] [_, _] rfl rfl rfl ?_
  refine JC_seq ?_
  refine JC_region ?_
  refine JL_assign rfl ?_
  refine JL_done_up 26 [] [_, _] rfl rfl (by simp only [nrmF]; rfl) rfl rfl ?_
  refine JC_seq ?_
  refine JC_seq ?_
  refine JC_region ?_
  refine JL_move rfl ?_
  refine JL_len sl22 rfl ?_
  refine JL_move rfl ?_
  refine JL_len sl22 rfl ?_
  refine JL_neq rfl rfl ?_
  refine JL_split (fun h10 => ?_) (fun h10 => ?_)
  · exact absurd rfl h10
  · refine JL_done_up 26 [] [_, _] rfl rfl (by simp only [nrmF]; rfl) rfl rfl ?_
    refine JC_false rfl ?_
    refine JC_skip ?_
    refine JE_then ?_
    refine JC_seq ?_
    refine JC_seq ?_
    refine JC_region ?_
    refine JL_assign rfl ?_
    refine JL_done_up 26 [] [_, _] rfl rfl (by simp only [nrmF]; rfl) rfl rfl ?_
    refine JC_block ?_
    refine JC_loopS ((Nat)) (fun (k : Nat) => k ≤ l.length) (fun (k : Nat) => l.length - k) (fun u (k : Nat) => [none, none, none, none, some (u 4), some (.int .i64 (k : Nat)), none, none, none, none, none, some (u 11), some (u 12), some (u 13), some (u 14), some (u 15), some (u 16), some (u 17), some (u 18), some (u 19), some (u 20), some (u 21), some (u 22), some (u 23), some (u 24), some (u 25)]) (fun (k : Nat) => []) (fun (k : Nat) => []) (0) (by kernel_rfl) ?_ (by kernel_rfl) ?_ ?_
    · exact Nat.zero_le _
    · exact subset_nil
    intro u k hk
    refine JC_norm ⟨26, [], [_, _, _, _, _, _, _, _, _, _, _, _, _, _, _, _, _, _, _, _, _, _, _, _, _, _]⟩ [] [_, _] rfl rfl rfl ?_
    refine JC_seq ?_
    refine JC_seq ?_
    refine JC_region ?_
    refine JL_move rfl ?_
    refine JL_move rfl ?_
    refine JL_len sl22 rfl ?_
    refine JL_lss rfl rfl ?_
    refine JL_split (fun h14 => ?_) (fun h14 => ?_)
    · refine JL_done_up 26 [] [_, _] rfl rfl (by simp only [nrmF]; rfl) rfl rfl ?_
      refine JC_true rfl ?_
      refine JC_skip ?_
      refine JE_then ?_
      refine JC_seq ?_
      refine JC_block ?_
      refine JC_seq ?_
      refine JC_drawT mixed 8 [spV 17 [] _, spV 18 [] _, spV 19 [0, 1] _, spV 20 [2] _, spV 21 [] _, spV 22 [] _, spV 23 [4, 5] _, spV 24 [6] _] ⟨OblS_V (fun vals ex ψ => (by
          refine JL_normQ ⟨26, [(17, _), (18, _), (19, _), (20, _), (21, _), (22, _), (23, _), (24, _)], _⟩ (_ :: _ :: ψ) rfl rfl ?_
          refine JL_move rfl ?_
          exact JL_nil (JE_stepV rfl ss0))), OblS_V (fun vals ex ψ => (by
          refine JL_normQ ⟨26, [(17, _), (18, _), (19, _), (20, _), (21, _), (22, _), (23, _), (24, _)], _⟩ (_ :: _ :: ψ) rfl rfl ?_
          refine JL_move rfl ?_
          exact JL_nil (JE_stepV rfl ss0))), OblS_V (fun vals ex ψ => (by
          refine JL_normQ ⟨26, [(17, _), (18, _), (19, _), (20, _), (21, _), (22, _), (23, _), (24, _)], _⟩ (_ :: _ :: ψ) rfl rfl ?_
          refine JL_indexAddr k sl22 rfl rfl rfl (by omega) (by first | exact Reads.view (by repeat (first | with_reducible exact mm0 | refine mmS ?_))) (by rw [pcells_length]; omega) ?_
          exact JL_nil (JE_stepV rfl ss0))), OblS_V (fun vals ex ψ => (by
          refine JL_normQ ⟨26, [(17, _), (18, _), (19, _), (20, _), (21, _), (22, _), (23, _), (24, _)], _⟩ (_ :: _ :: ψ) rfl rfl ?_
          refine JL_loadEA (vs := [_, _]) ty51 (Nat.zero_lt_succ _) rfl (by first | exact Reads.view (by repeat (first | with_reducible exact mm0 | refine mmS ?_))) (pcells_getA (by omega)) ?_
          exact JL_nil (JE_stepV rfl ss0))), OblS_V (fun vals ex ψ => (by
          refine JL_normQ ⟨26, [(17, _), (18, _), (19, _), (20, _), (21, _), (22, _), (23, _), (24, _)], _⟩ (_ :: _ :: ψ) rfl rfl ?_
          refine JL_move rfl ?_
          exact JL_nil (JE_stepV rfl ss0))), OblS_V (fun vals ex ψ => (by
          refine JL_normQ ⟨26, [(17, _), (18, _), (19, _), (20, _), (21, _), (22, _), (23, _), (24, _)], _⟩ (_ :: _ :: ψ) rfl rfl ?_
          refine JL_move rfl ?_
          exact JL_nil (JE_stepV rfl ss0))), OblS_V (fun vals ex ψ => (by
          refine JL_normQ ⟨26, [(17, _), (18, _), (19, _), (20, _), (21, _), (22, _), (23, _), (24, _)], _⟩ (_ :: _ :: ψ) rfl rfl ?_
          refine JL_indexAddr k sl22 rfl rfl rfl (by omega) (by first | exact Reads.view (by repeat (first | with_reducible exact mm0 | refine mmS ?_))) (by rw [pcells_length]; omega) ?_
          exact JL_nil (JE_stepV rfl ss0))), OblS_V (fun vals ex ψ => (by
          refine JL_normQ ⟨26, [(17, _), (18, _), (19, _), (20, _), (21, _), (22, _), (23, _), (24, _)], _⟩ (_ :: _ :: ψ) rfl rfl ?_
          refine JL_loadEA (vs := [_, _]) ty51 (Nat.zero_lt_succ _) rfl (by first | exact Reads.view (by repeat (first | with_reducible exact mm0 | refine mmS ?_))) (pcells_getA (by omega)) ?_
          exact JL_nil (JE_stepV rfl ss0))), trivial⟩ (by kernel_rfl) (fun vals bs => ?_)
      refine JL_normL [_] ⟨26, [(17, _), (18, _), (19, _), (20, _), (21, _), (22, _), (23, _), (24, _)], _⟩ [] [_, _] rfl rfl rfl rfl ?_
      refine JL_neqP eqPair rfl rfl ?_
      refine JL_split (fun h25 => ?_) (fun h25 => ?_)
      · exact absurd rfl h25
      · refine JL_done_up 26 [] [_, _] rfl rfl (by simp only [nrmF]; rfl) rfl rfl ?_
        refine JC_false rfl ?_
        refine JC_skip ?_
        refine JE_block_normal ?_
        refine JE_then ?_
        refine JC_region ?_
        refine JL_move rfl ?_
        refine JL_add_to rfl rfl (IntWalk.i64_in _ (by omega)) ?_
        refine JL_assign rfl ?_
        refine JL_nil_up 26 [] [_, _] rfl rfl (by simp only [nrmF]; rfl) rfl rfl ?_
        refine JE_nextS (k + 1) (by kernel_rfl) ?_ ?_ (by kernel_rfl) ?_
        · exact (by omega : k + 1 ≤ l.length)
        · first | omega | (dsimp only; omega)
        · exact subset_app subset_nil ss0
    · refine JL_done_up 26 [] [_, _] rfl rfl (by simp only [nrmF]; rfl) rfl rfl ?_
      refine JC_false rfl ?_
      refine JC_exit ?_
      refine JE_then_exit ?_
      refine JE_nextS_exit ?_
      refine JE_block_exit ?_
      refine JE_then ?_
      refine JC_seq ?_
      refine JC_region ?_
      refine JL_assign rfl ?_
      refine JL_done_up 26 [] [_, _] rfl rfl (by simp only [nrmF]; rfl) rfl rfl ?_
      refine JC_ret ?_
      refine JE_ret (vs := [_]) [] Try.results20 ⟨rfl, rfl⟩ ?_ ?_
      · exact ⟨rfl, rfl⟩
      · exact all_nil

theorem bints_con {ad1 ad2 : Option Addr} {c1 c2 : Nat} {L : List Int} (hln : L.length ≤ 1000000) :
    ConF Try.prog 21 [.slice ad1 L.length c1, .slice ad2 L.length c2] [vCells ad1 (i64s L), vCells ad2 (i64s L)]
      (fun v φo => v = .bool (true) ∧ φo = []) := by
  refine ConF_of Try.func21 rfl 26 _ rfl rfl ?_
  intro w0
  refine JC_norm ⟨26, [], [_, _, _, _, _, _, _, _, _, _, _, _, _, _, _, _, _, _, _, _, _, _, _, _, _, _]⟩ [] [_, _] rfl rfl rfl ?_
  refine JC_seq ?_
  refine JC_region ?_
  refine JL_assign rfl ?_
  refine JL_done_up 26 [] [_, _] rfl rfl (by simp only [nrmF]; rfl) rfl rfl ?_
  refine JC_seq ?_
  refine JC_seq ?_
  refine JC_region ?_
  refine JL_move rfl ?_
  refine JL_len sl28 rfl ?_
  refine JL_move rfl ?_
  refine JL_len sl28 rfl ?_
  refine JL_neq rfl rfl ?_
  refine JL_split (fun h10 => ?_) (fun h10 => ?_)
  · exact absurd rfl h10
  · refine JL_done_up 26 [] [_, _] rfl rfl (by simp only [nrmF]; rfl) rfl rfl ?_
    refine JC_false rfl ?_
    refine JC_skip ?_
    refine JE_then ?_
    refine JC_seq ?_
    refine JC_seq ?_
    refine JC_region ?_
    refine JL_assign rfl ?_
    refine JL_done_up 26 [] [_, _] rfl rfl (by simp only [nrmF]; rfl) rfl rfl ?_
    refine JC_block ?_
    refine JC_loopS ((Nat)) (fun (k : Nat) => k ≤ L.length) (fun (k : Nat) => L.length - k) (fun u (k : Nat) => [none, none, none, none, some (u 4), some (.int .i64 (k : Nat)), none, none, none, none, none, some (u 11), some (u 12), some (u 13), some (u 14), some (u 15), some (u 16), some (u 17), some (u 18), some (u 19), some (u 20), some (u 21), some (u 22), some (u 23), some (u 24), some (u 25)]) (fun (k : Nat) => []) (fun (k : Nat) => []) (0) (by kernel_rfl) ?_ (by kernel_rfl) ?_ ?_
    · exact Nat.zero_le _
    · exact subset_nil
    intro u k hk
    refine JC_norm ⟨26, [], [_, _, _, _, _, _, _, _, _, _, _, _, _, _, _, _, _, _, _, _, _, _, _, _, _, _]⟩ [] [_, _] rfl rfl rfl ?_
    refine JC_seq ?_
    refine JC_seq ?_
    refine JC_region ?_
    refine JL_move rfl ?_
    refine JL_move rfl ?_
    refine JL_len sl28 rfl ?_
    refine JL_lss rfl rfl ?_
    refine JL_split (fun h14 => ?_) (fun h14 => ?_)
    · refine JL_done_up 26 [] [_, _] rfl rfl (by simp only [nrmF]; rfl) rfl rfl ?_
      refine JC_true rfl ?_
      refine JC_skip ?_
      refine JE_then ?_
      refine JC_seq ?_
      refine JC_block ?_
      refine JC_seq ?_
      refine JC_drawT mixed 8 [spV 17 [] _, spV 18 [] _, spV 19 [0, 1] _, spV 20 [2] _, spV 21 [] _, spV 22 [] _, spV 23 [4, 5] _, spV 24 [6] _] ⟨OblS_V (fun vals ex ψ => (by
          refine JL_normQ ⟨26, [(17, _), (18, _), (19, _), (20, _), (21, _), (22, _), (23, _), (24, _)], _⟩ (_ :: _ :: ψ) rfl rfl ?_
          refine JL_move rfl ?_
          exact JL_nil (JE_stepV rfl ss0))), OblS_V (fun vals ex ψ => (by
          refine JL_normQ ⟨26, [(17, _), (18, _), (19, _), (20, _), (21, _), (22, _), (23, _), (24, _)], _⟩ (_ :: _ :: ψ) rfl rfl ?_
          refine JL_move rfl ?_
          exact JL_nil (JE_stepV rfl ss0))), OblS_V (fun vals ex ψ => (by
          refine JL_normQ ⟨26, [(17, _), (18, _), (19, _), (20, _), (21, _), (22, _), (23, _), (24, _)], _⟩ (_ :: _ :: ψ) rfl rfl ?_
          refine JL_idx k sl28 rfl rfl rfl (by omega) (by first | exact Reads.view (by repeat (first | with_reducible exact mm0 | refine mmS ?_))) (by first | (rw [u32s_length]; omega) | (rw [i64s_length]; omega)) ?_
          exact JL_nil (JE_stepV rfl ss0))), OblS_V (fun vals ex ψ => (by
          refine JL_normQ ⟨26, [(17, _), (18, _), (19, _), (20, _), (21, _), (22, _), (23, _), (24, _)], _⟩ (_ :: _ :: ψ) rfl rfl ?_
          refine JL_loadE ty3 rfl (by first | exact Reads.view (by repeat (first | with_reducible exact mm0 | refine mmS ?_))) (i64s_get (by omega)) ?_
          exact JL_nil (JE_stepV rfl ss0))), OblS_V (fun vals ex ψ => (by
          refine JL_normQ ⟨26, [(17, _), (18, _), (19, _), (20, _), (21, _), (22, _), (23, _), (24, _)], _⟩ (_ :: _ :: ψ) rfl rfl ?_
          refine JL_move rfl ?_
          exact JL_nil (JE_stepV rfl ss0))), OblS_V (fun vals ex ψ => (by
          refine JL_normQ ⟨26, [(17, _), (18, _), (19, _), (20, _), (21, _), (22, _), (23, _), (24, _)], _⟩ (_ :: _ :: ψ) rfl rfl ?_
          refine JL_move rfl ?_
          exact JL_nil (JE_stepV rfl ss0))), OblS_V (fun vals ex ψ => (by
          refine JL_normQ ⟨26, [(17, _), (18, _), (19, _), (20, _), (21, _), (22, _), (23, _), (24, _)], _⟩ (_ :: _ :: ψ) rfl rfl ?_
          refine JL_idx k sl28 rfl rfl rfl (by omega) (by first | exact Reads.view (by repeat (first | with_reducible exact mm0 | refine mmS ?_))) (by first | (rw [u32s_length]; omega) | (rw [i64s_length]; omega)) ?_
          exact JL_nil (JE_stepV rfl ss0))), OblS_V (fun vals ex ψ => (by
          refine JL_normQ ⟨26, [(17, _), (18, _), (19, _), (20, _), (21, _), (22, _), (23, _), (24, _)], _⟩ (_ :: _ :: ψ) rfl rfl ?_
          refine JL_loadE ty3 rfl (by first | exact Reads.view (by repeat (first | with_reducible exact mm0 | refine mmS ?_))) (i64s_get (by omega)) ?_
          exact JL_nil (JE_stepV rfl ss0))), trivial⟩ (by kernel_rfl) (fun vals bs => ?_)
      refine JL_normL [_] ⟨26, [(17, _), (18, _), (19, _), (20, _), (21, _), (22, _), (23, _), (24, _)], _⟩ [] [_, _] rfl rfl rfl rfl ?_
      refine JL_neq rfl rfl ?_
      refine JL_split (fun h25 => ?_) (fun h25 => ?_)
      · exact absurd rfl h25
      · refine JL_done_up 26 [] [_, _] rfl rfl (by simp only [nrmF]; rfl) rfl rfl ?_
        refine JC_false rfl ?_
        refine JC_skip ?_
        refine JE_block_normal ?_
        refine JE_then ?_
        refine JC_region ?_
        refine JL_move rfl ?_
        refine JL_add_to rfl rfl (IntWalk.i64_in _ (by omega)) ?_
        refine JL_assign rfl ?_
        refine JL_nil_up 26 [] [_, _] rfl rfl (by simp only [nrmF]; rfl) rfl rfl ?_
        refine JE_nextS (k + 1) (by kernel_rfl) ?_ ?_ (by kernel_rfl) ?_
        · exact (by omega : k + 1 ≤ L.length)
        · first | omega | (dsimp only; omega)
        · exact subset_app subset_nil ss0
    · refine JL_done_up 26 [] [_, _] rfl rfl (by simp only [nrmF]; rfl) rfl rfl ?_
      refine JC_false rfl ?_
      refine JC_exit ?_
      refine JE_then_exit ?_
      refine JE_nextS_exit ?_
      refine JE_block_exit ?_
      refine JE_then ?_
      refine JC_seq ?_
      refine JC_region ?_
      refine JL_assign rfl ?_
      refine JL_done_up 26 [] [_, _] rfl rfl (by simp only [nrmF]; rfl) rfl rfl ?_
      refine JC_ret ?_
      refine JE_ret (vs := [_]) [] Try.results21 ⟨rfl, rfl⟩ ?_ ?_
      · exact ⟨rfl, rfl⟩
      · exact all_nil

theorem few_con {ad1 ad2 : Option Addr} {n1 n2 c1 c2 : Nat} :
    ConF Try.prog 11 [.slice ad1 n1 c1, .slice ad2 n2 c2] []
      (fun v φo => v = .bool (decide (n1 ≤ 150 ∧ n2 ≤ 150)) ∧ φo = []) := by
  refine ConF_of Try.func11 rfl 13 _ rfl rfl ?_
  intro w0
  refine JC_norm ⟨13, [], [_, _, _, _, _, _, _, _, _, _, _, _, _]⟩ [] [] rfl rfl rfl ?_
  refine JC_seq ?_
  refine JC_region ?_
  refine JL_assign rfl ?_
  refine JL_done_up 13 [] [] rfl rfl (by simp only [nrmF]; rfl) rfl rfl ?_
  refine JC_seq ?_
  refine JC_region ?_
  refine JL_move rfl ?_
  refine JL_len sl22 rfl ?_
  refine JL_leq rfl rfl ?_
  refine JL_split (fun h7 => ?_) (fun h7 => ?_)
  · refine JL_move rfl ?_
    refine JL_guard_yes rfl rfl ?_
    refine JL_move rfl ?_
    refine JL_guard_yes rfl rfl ?_
    refine JL_len sl22 rfl ?_
    refine JL_guard_yes rfl rfl ?_
    refine JL_leq rfl rfl ?_
    refine JL_split (fun h11 => ?_) (fun h11 => ?_)
    · refine JL_pick_t rfl rfl ?_
      refine JL_assign rfl ?_
      refine JL_done_up 13 [] [] rfl rfl (by simp only [nrmF]; rfl) rfl rfl ?_
      refine JC_ret ?_
      refine JE_ret (vs := [_]) [] Try.results11 ⟨rfl, rfl⟩ ?_ ?_
      · rw [decide_eq_true (p := n1 ≤ 150 ∧ n2 ≤ 150) ⟨by omega, by omega⟩]; exact ⟨rfl, rfl⟩
      · exact all_nil
    · refine JL_pick_t rfl rfl ?_
      refine JL_assign rfl ?_
      refine JL_done_up 13 [] [] rfl rfl (by simp only [nrmF]; rfl) rfl rfl ?_
      refine JC_ret ?_
      refine JE_ret (vs := [_]) [] Try.results11 ⟨rfl, rfl⟩ ?_ ?_
      · rw [decide_eq_false (p := n1 ≤ 150 ∧ n2 ≤ 150) (fun h => by omega)]; exact ⟨rfl, rfl⟩
      · exact all_nil
  · refine JL_move rfl ?_
    refine JL_guard_no rfl rfl ?_
    refine JL_guard_no rfl rfl ?_
    refine JL_guard_no rfl rfl ?_
    refine JL_pick_f rfl rfl ?_
    refine JL_assign rfl ?_
    refine JL_done_up 13 [] [] rfl rfl (by simp only [nrmF]; rfl) rfl rfl ?_
    refine JC_ret ?_
    refine JE_ret (vs := [_]) [] Try.results11 ⟨rfl, rfl⟩ ?_ ?_
    · rw [decide_eq_false (p := n1 ≤ 150 ∧ n2 ≤ 150) (fun h => by omega)]; exact ⟨rfl, rfl⟩
    · exact all_nil

end Go.Fw.K
