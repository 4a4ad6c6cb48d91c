/- Walks through functions of the given program: each meets its contract. (Printed by a program of this repo.) -/
import Derived.Test.YthaepkealhkkmaaQ7
import Derived.Test.YthaepkealhkkmaaProg
namespace Go.Fw.Q8
open Go Go.RowKit Go.Proofs Go.Nat9 Go.Fw
attribute [local irreducible] JC JL JE
theorem ca25 : callable Try.prog 25 = true := by kernel_rfl
theorem ca37 : callable Try.prog 37 = true := by kernel_rfl
theorem ca43 : callable Try.prog 43 = true := by kernel_rfl
theorem fo51_0 : fOf Try.prog 51 0 = some 0 := by kernel_rfl
theorem fo51_1 : fOf Try.prog 51 1 = some 1 := by kernel_rfl
theorem mixed : Try.prog.follows .mixedOrders = true := by kernel_rfl
theorem sl22 : slOf Try.prog 22 = some (51, 2, 16, [.int .i64 0, .int .i64 0]) := by kernel_rfl
theorem st51 : stOf Try.prog 51 = some ([(0, 1), (1, 1)], [.int .i64 0, .int .i64 0]) := by kernel_rfl
theorem ty3 : tyOf Try.prog 3 = some (false, 1) := by kernel_rfl
theorem ty51 : tyOf Try.prog 51 = some (true, 2) := by kernel_rfl
theorem ui3 : Try.prog.underlying 3 = some (.int .i64) := by kernel_rfl
end Go.Fw.Q8
namespace Go.Fw.K
open Go Go.RowKit Go.Proofs Go.Nat9 Go.Fw Go.Fw.Q8
attribute [local irreducible] JC JL JE

theorem lim_con {ad : Option Addr} {c : Nat} {l : List Pr} (hln : l.length ≤ 1000000) (hc : l.length ≤ c ∧ c ≤ 9223372036854775807) :
    ConA Try.prog 43 [.slice ad l.length c] [vCells ad (pcells l)]
      (SPP (limR l) (limE l)) := by
  refine ConA_of Try.func43 rfl 8 _ rfl rfl ?_
  intro w0
  refine JC_norm ⟨8, [], [_, _, _, _, _, _, _, _]⟩ [] [_] rfl rfl rfl ?_
  refine JC_seq ?_
  refine JC_region ?_
  refine JL_assign rfl ?_
  refine JL_assign rfl ?_
  refine JL_done_up 8 [] [_] rfl rfl (by simp only [nrmF]; rfl) rfl rfl ?_
  refine JC_seq ?_
  refine JC_seq ?_
  refine JC_region ?_
  refine JL_move rfl ?_
  refine JL_len sl22 rfl ?_
  refine JL_gtr rfl rfl ?_
  refine JL_split (fun h6 => ?_) (fun h6 => ?_)
  · refine JL_done_up 8 [] [_] rfl rfl (by simp only [nrmF]; rfl) rfl rfl ?_
    refine JC_true rfl ?_
    refine JC_seq ?_
    refine JC_region ?_
    refine JL_assign rfl ?_
    refine JL_assign rfl ?_
    refine JL_done_up 8 [] [_] rfl rfl (by simp only [nrmF]; rfl) rfl rfl ?_
    refine JC_ret ?_
    refine JE_then_ret ?_
    refine JE_addView (f := true) (p := vCells none (pcells [])) (fun _ _ => nilP) ?_
    refine JE_ret (vs := [_, _]) [vCells none (pcells [])] Try.results43 ⟨rfl, rfl, rfl⟩ ?_ ?_
    · rw [(limR_no (l := l) (by omega)).1, (limR_no (l := l) (by omega)).2]; exact ⟨none, 0, rfl, caps0, rfl⟩
    · exact (all_cons (by repeat (first | with_reducible exact mm0 | refine mmS ?_)) all_nil)
  · refine JL_done_up 8 [] [_] rfl rfl (by simp only [nrmF]; rfl) rfl rfl ?_
    refine JC_false rfl ?_
    refine JC_skip ?_
    refine JE_then ?_
    refine JC_seq ?_
    refine JC_region ?_
    refine JL_move rfl ?_
    refine JL_assign rfl ?_
    refine JL_assign rfl ?_
    refine JL_done_up 8 [] [_] rfl rfl (by simp only [nrmF]; rfl) rfl rfl ?_
    refine JC_ret ?_
    refine JE_ret (vs := [_, _]) [vCells ad (pcells l)] Try.results43 ⟨rfl, rfl, rfl⟩ ?_ ?_
    · rw [(limR_ok (l := l) (by omega)).1, (limR_ok (l := l) (by omega)).2]; exact ⟨ad, c, rfl, hc, rfl⟩
    · exact (all_cons (by repeat (first | with_reducible exact mm0 | refine mmS ?_)) all_nil)

set_option maxHeartbeats 2000000 in
theorem rcompose_con {ad1 ad2 : Option Addr} {c1 c2 : Nat} {l m : List Pr} (hln : l.length ≤ 1000000) (hmn : m.length ≤ 1000000) :
    ConF Try.prog 27 [.slice ad1 l.length c1, .slice ad2 m.length c2] [vCells ad1 (pcells l), vCells ad2 (pcells m)]
      (SPP (bothR l m (cmpL l m l.length)) (bothE l m (cmpL l m l.length))) := by
  refine ConF_of Try.func27 rfl 60 _ rfl rfl ?_
  intro w0
  refine JC_norm ⟨60, [], [_, _, _, _, _, _, _, _, _, _, _, _, _, _, _, _, _, _, _, _, _, _, _, _, _, _, _, _, _, _, _, _, _, _, _, _, _, _, _, _, _, _, _, _, _, _, _, _, _, _, _, _, _, _, _, _, _, _, _, _]⟩ [] [_, _] rfl rfl rfl ?_
  refine JC_seq ?_
  refine JC_region ?_
  refine JL_assign rfl ?_
  refine JL_assign rfl ?_
  refine JL_done_up 60 [] [_, _] rfl rfl (by simp only [nrmF]; rfl) rfl rfl ?_
  refine JC_seq ?_
  refine JC_seq ?_
  refine JC_region ?_
  refine JL_move rfl ?_
  refine JL_callF' (Asks.cons (holds_of_mem (by repeat (first | with_reducible exact mm0 | refine mmS ?_))) Asks.nil) (rvalid_con (by omega)) rfl ca25 ⟨rfl, rfl⟩ ?_
  rintro _ _ ⟨rfl, rfl⟩
  refine JL_split (fun h10 => ?_) (fun h10 => ?_)
  · refine JL_not rfl ?_
    rw [Bool.not_true]
    refine JL_move rfl ?_
    refine JL_guard_yes rfl rfl ?_
    refine JL_move rfl ?_
    refine JL_guard_yes rfl rfl ?_
    refine JL_callF' (Asks.cons (holds_of_mem (by repeat (first | with_reducible exact mm0 | refine mmS ?_))) Asks.nil) (rvalid_con (by omega)) rfl ca25 ⟨rfl, rfl⟩ ?_
    rintro _ _ ⟨rfl, rfl⟩
    refine JL_split (fun h14 => ?_) (fun h14 => ?_)
    · refine JL_guard_yes rfl rfl ?_
      refine JL_not rfl ?_
      rw [Bool.not_true]
      refine JL_pick_f rfl rfl ?_
      refine JL_done_up 60 [] [_, _] rfl rfl (by simp only [nrmF]; rfl) rfl rfl ?_
      refine JC_false rfl ?_
      refine JC_skip ?_
      refine JE_then ?_
      refine JC_seq ?_
      refine JC_region ?_
      refine JL_assign rfl ?_
      refine JL_done_up 60 [] [_, _] rfl rfl (by simp only [nrmF]; rfl) rfl rfl ?_
      refine JC_seq ?_
      refine JC_seq ?_
      refine JC_region ?_
      refine JL_assign rfl ?_
      refine JL_done_up 60 [] [_, _] rfl rfl (by simp only [nrmF]; rfl) rfl rfl ?_
      refine JC_block ?_
      refine JC_addView (f := true) (p := vCells none (pcells [])) (fun _ _ => nilP) ?_
      refine JC_loopS ((Nat) × (List Pr) × (Option Addr) × (Nat)) (fun (i, r, ad3, cap3) => i ≤ l.length ∧ srt (cmpL l m i) = r ∧ r.length ≤ 128 ∧ r.length ≤ cap3 ∧ cap3 ≤ 9223372036854775807) (fun (i, r, ad3, cap3) => l.length - i) (fun u (i, r, ad3, cap3) => [none, none, none, none, some (u 4), some (u 5), some (.slice ad3 r.length cap3), some (.int .i64 (i : Nat)), some (u 8), none, none, none, none, none, none, none, none, some (u 17), some (u 18), some (u 19), some (u 20), some (u 21), some (u 22), some (u 23), some (u 24), some (u 25), some (u 26), some (u 27), some (u 28), some (u 29), some (u 30), some (u 31), some (u 32), some (u 33), some (u 34), some (u 35), some (u 36), some (u 37), some (u 38), some (u 39), some (u 40), some (u 41), some (u 42), some (u 43), some (u 44), some (u 45), some (u 46), some (u 47), some (u 48), some (u 49), some (u 50), some (u 51), some (u 52), some (u 53), some (u 54), some (u 55), none, none, none, none]) (fun (i, r, ad3, cap3) => []) (fun (i, r, ad3, cap3) => [(true, vCells ad3 (pcells r))]) (0, [], none, 0) (by kernel_rfl) ?_ (by kernel_rfl) ?_ ?_
      · exact ⟨Nat.zero_le _, rfl, Nat.zero_le _, Nat.le_refl _, Nat.zero_le _⟩
      · exact (subset_cons (by repeat (first | with_reducible exact mm0 | refine mmS ?_)) subset_nil)
      intro u i hC
      obtain ⟨i, r, ad3, cap3⟩ := i
      obtain ⟨hi, hr, hr128, hc3⟩ := hC
      refine JC_norm ⟨60, [], [_, _, _, _, _, _, _, _, _, _, _, _, _, _, _, _, _, _, _, _, _, _, _, _, _, _, _, _, _, _, _, _, _, _, _, _, _, _, _, _, _, _, _, _, _, _, _, _, _, _, _, _, _, _, _, _, _, _, _, _]⟩ [] [_, _, _, _] rfl rfl rfl ?_
      refine JC_seq ?_
      refine JC_seq ?_
      refine JC_region ?_
      refine JL_move rfl ?_
      refine JL_move rfl ?_
      refine JL_len sl22 rfl ?_
      refine JL_lss rfl rfl ?_
      refine JL_split (fun h20 => ?_) (fun h20 => ?_)
      · refine JL_done_up 60 [] [_, _, _, _] rfl rfl (by simp only [nrmF]; rfl) rfl rfl ?_
        refine JC_true rfl ?_
        refine JC_skip ?_
        refine JE_then ?_
        refine JC_seq ?_
        refine JC_block ?_
        refine JC_seq ?_
        refine JC_region ?_
        refine JL_assign rfl ?_
        refine JL_done_up 60 [] [_, _, _, _] rfl rfl (by simp only [nrmF]; rfl) rfl rfl ?_
        refine JC_block ?_
        refine JC_loopS ((Nat) × (List Pr) × (Option Addr) × (Nat)) (fun (j, r2, ad4, cap4) => j ≤ m.length ∧ srt (cmpL l m i ++ cmpJ (l.getD i dP) m j) = r2 ∧ r2.length ≤ 128 ∧ r2.length ≤ cap4 ∧ cap4 ≤ 9223372036854775807) (fun (j, r2, ad4, cap4) => m.length - j) (fun u (j, r2, ad4, cap4) => [none, none, none, none, some (u 4), some (u 5), some (.slice ad4 r2.length cap4), none, some (.int .i64 (j : Nat)), none, none, none, none, none, none, none, none, none, none, none, none, none, none, some (u 23), some (u 24), some (u 25), some (u 26), some (u 27), some (u 28), some (u 29), some (u 30), some (u 31), some (u 32), some (u 33), some (u 34), some (u 35), some (u 36), some (u 37), some (u 38), some (u 39), some (u 40), some (u 41), some (u 42), some (u 43), some (u 44), some (u 45), some (u 46), some (u 47), some (u 48), some (u 49), some (u 50), some (u 51), some (u 52), some (u 53), some (u 54), some (u 55), none, none, none, none]) (fun (j, r2, ad4, cap4) => []) (fun (j, r2, ad4, cap4) => [(true, vCells ad4 (pcells r2))]) (0, r, ad3, cap3) (by kernel_rfl) ?_ (by kernel_rfl) ?_ ?_
        · exact ⟨Nat.zero_le _, by rw [cmpJ, List.append_nil, hr], hr128, hc3.1, hc3.2⟩
        · exact (subset_cons (by repeat (first | with_reducible exact mm0 | refine mmS ?_)) subset_nil)
        intro u i hC
        obtain ⟨j, r2, ad4, cap4⟩ := i
        obtain ⟨hj, hr2, hr2128, hc4⟩ := hC
        refine JC_norm ⟨60, [], [_, _, _, _, _, _, _, _, _, _, _, _, _, _, _, _, _, _, _, _, _, _, _, _, _, _, _, _, _, _, _, _, _, _, _, _, _, _, _, _, _, _, _, _, _, _, _, _, _, _, _, _, _, _, _, _, _, _, _, _]⟩ [] [_, _, _, _, _] rfl rfl rfl ?_
        refine JC_seq ?_
        refine JC_seq ?_
        refine JC_region ?_
        refine JL_move rfl ?_
        refine JL_move rfl ?_
        refine JL_len sl22 rfl ?_
        refine JL_lss rfl rfl ?_
        refine JL_split (fun h26 => ?_) (fun h26 => ?_)
        · refine JL_done_up 60 [] [_, _, _, _, _] rfl rfl (by simp only [nrmF]; rfl) rfl rfl ?_
          refine JC_true rfl ?_
          refine JC_skip ?_
          refine JE_then ?_
          refine JC_seq ?_
          refine JC_block ?_
          refine JC_seq ?_
          refine JC_seq ?_
          refine JC_drawT mixed 10 [spV 29 [] _, spV 30 [] _, spV 31 [0, 1] _, spV 32 [2] _, spV 33 [3] _, spV 34 [] _, spV 35 [] _, spV 36 [5, 6] _, spV 37 [7] _, spV 38 [8] _] ⟨OblS_V (fun vals ex ψ => (by
              refine JL_normQ ⟨60, [(29, _), (30, _), (31, _), (32, _), (33, _), (34, _), (35, _), (36, _), (37, _), (38, _)], _⟩ (_ :: _ :: _ :: _ :: _ :: ψ) rfl rfl ?_
              refine JL_move rfl ?_
              exact JL_nil (JE_stepV rfl ss0))), OblS_V (fun vals ex ψ => (by
              refine JL_normQ ⟨60, [(29, _), (30, _), (31, _), (32, _), (33, _), (34, _), (35, _), (36, _), (37, _), (38, _)], _⟩ (_ :: _ :: _ :: _ :: _ :: ψ) rfl rfl ?_
              refine JL_move rfl ?_
              exact JL_nil (JE_stepV rfl ss0))), OblS_V (fun vals ex ψ => (by
              refine JL_normQ ⟨60, [(29, _), (30, _), (31, _), (32, _), (33, _), (34, _), (35, _), (36, _), (37, _), (38, _)], _⟩ (_ :: _ :: _ :: _ :: _ :: ψ) rfl rfl ?_
              refine JL_indexAddr i sl22 rfl rfl rfl (by omega) (by first | exact Reads.view (by repeat (first | with_reducible exact mm0 | refine mmS ?_))) (by rw [pcells_length]; omega) ?_
              exact JL_nil (JE_stepV rfl ss0))), OblS_V (fun vals ex ψ => (by
              refine JL_normQ ⟨60, [(29, _), (30, _), (31, _), (32, _), (33, _), (34, _), (35, _), (36, _), (37, _), (38, _)], _⟩ (_ :: _ :: _ :: _ :: _ :: ψ) rfl rfl ?_
              refine JL_fieldAddrE fo51_1 rfl (by first | exact Reads.view (by repeat (first | with_reducible exact mm0 | refine mmS ?_))) (by rw [pcells_length]; omega) ?_
              exact JL_nil (JE_stepV rfl ss0))), OblS_V (fun vals ex ψ => (by
              refine JL_normQ ⟨60, [(29, _), (30, _), (31, _), (32, _), (33, _), (34, _), (35, _), (36, _), (37, _), (38, _)], _⟩ (_ :: _ :: _ :: _ :: _ :: ψ) rfl rfl ?_
              refine JL_loadE ty3 rfl (by first | exact Reads.view (by repeat (first | with_reducible exact mm0 | refine mmS ?_))) (pcells_one (by omega)).2 ?_
              exact JL_nil (JE_stepV rfl ss0))), OblS_V (fun vals ex ψ => (by
              refine JL_normQ ⟨60, [(29, _), (30, _), (31, _), (32, _), (33, _), (34, _), (35, _), (36, _), (37, _), (38, _)], _⟩ (_ :: _ :: _ :: _ :: _ :: ψ) rfl rfl ?_
              refine JL_move rfl ?_
              exact JL_nil (JE_stepV rfl ss0))), OblS_V (fun vals ex ψ => (by
              refine JL_normQ ⟨60, [(29, _), (30, _), (31, _), (32, _), (33, _), (34, _), (35, _), (36, _), (37, _), (38, _)], _⟩ (_ :: _ :: _ :: _ :: _ :: ψ) rfl rfl ?_
              refine JL_move rfl ?_
              exact JL_nil (JE_stepV rfl ss0))), OblS_V (fun vals ex ψ => (by
              refine JL_normQ ⟨60, [(29, _), (30, _), (31, _), (32, _), (33, _), (34, _), (35, _), (36, _), (37, _), (38, _)], _⟩ (_ :: _ :: _ :: _ :: _ :: ψ) rfl rfl ?_
              refine JL_indexAddr j sl22 rfl rfl rfl (by omega) (by first | exact Reads.view (by repeat (first | with_reducible exact mm0 | refine mmS ?_))) (by rw [pcells_length]; omega) ?_
              exact JL_nil (JE_stepV rfl ss0))), OblS_V (fun vals ex ψ => (by
              refine JL_normQ ⟨60, [(29, _), (30, _), (31, _), (32, _), (33, _), (34, _), (35, _), (36, _), (37, _), (38, _)], _⟩ (_ :: _ :: _ :: _ :: _ :: ψ) rfl rfl ?_
              refine JL_fieldAddrE fo51_0 rfl (by first | exact Reads.view (by repeat (first | with_reducible exact mm0 | refine mmS ?_))) (by rw [pcells_length]; omega) ?_
              exact JL_nil (JE_stepV rfl ss0))), OblS_V (fun vals ex ψ => (by
              refine JL_normQ ⟨60, [(29, _), (30, _), (31, _), (32, _), (33, _), (34, _), (35, _), (36, _), (37, _), (38, _)], _⟩ (_ :: _ :: _ :: _ :: _ :: ψ) rfl rfl ?_
              refine JL_loadE ty3 rfl (by first | exact Reads.view (by repeat (first | with_reducible exact mm0 | refine mmS ?_))) (pcells_one (by omega)).1 ?_
              exact JL_nil (JE_stepV rfl ss0))), trivial⟩ (by kernel_rfl) (fun vals bs => ?_)
          refine JL_normL [_] ⟨60, [(29, _), (30, _), (31, _), (32, _), (33, _), (34, _), (35, _), (36, _), (37, _), (38, _)], _⟩ [] [_, _, _, _, _] rfl rfl rfl rfl ?_
          refine JL_eql rfl rfl ?_
          refine JL_split (fun h39 => ?_) (fun h39 => ?_)
          · refine JL_done_up 60 [] [_, _, _, _, _] rfl rfl (by simp only [nrmF]; rfl) rfl rfl ?_
            refine JC_true rfl ?_
            refine JC_drawT mixed 12 [spV 40 [] _, spV 41 [] _, spV 42 [] _, spV 43 [1, 2] _, spV 44 [3] _, spV 45 [4] _, spV 46 [] _, spV 47 [] _, spV 48 [6, 7] _, spV 49 [8] _, spV 50 [9] _, spV 51 [5, 10] (pv ((l.getD i dP).1, (m.getD j dP).2))] ⟨OblS_V (fun vals ex ψ => (by
                refine JL_normQ ⟨60, [(40, _), (41, _), (42, _), (43, _), (44, _), (45, _), (46, _), (47, _), (48, _), (49, _), (50, _), (51, _)], _⟩ (_ :: _ :: _ :: _ :: _ :: ψ) rfl rfl ?_
                refine JL_move rfl ?_
                exact JL_nil (JE_stepV rfl ss0))), OblS_V (fun vals ex ψ => (by
                refine JL_normQ ⟨60, [(40, _), (41, _), (42, _), (43, _), (44, _), (45, _), (46, _), (47, _), (48, _), (49, _), (50, _), (51, _)], _⟩ (_ :: _ :: _ :: _ :: _ :: ψ) rfl rfl ?_
                refine JL_move rfl ?_
                exact JL_nil (JE_stepV rfl ss0))), OblS_V (fun vals ex ψ => (by
                refine JL_normQ ⟨60, [(40, _), (41, _), (42, _), (43, _), (44, _), (45, _), (46, _), (47, _), (48, _), (49, _), (50, _), (51, _)], _⟩ (_ :: _ :: _ :: _ :: _ :: ψ) rfl rfl ?_
                refine JL_move rfl ?_
                exact JL_nil (JE_stepV rfl ss0))), OblS_V (fun vals ex ψ => (by
                refine JL_normQ ⟨60, [(40, _), (41, _), (42, _), (43, _), (44, _), (45, _), (46, _), (47, _), (48, _), (49, _), (50, _), (51, _)], _⟩ (_ :: _ :: _ :: _ :: _ :: ψ) rfl rfl ?_
                refine JL_indexAddr i sl22 rfl rfl rfl (by omega) (by first | exact Reads.view (by repeat (first | with_reducible exact mm0 | refine mmS ?_))) (by rw [pcells_length]; omega) ?_
                exact JL_nil (JE_stepV rfl ss0))), OblS_V (fun vals ex ψ => (by
                refine JL_normQ ⟨60, [(40, _), (41, _), (42, _), (43, _), (44, _), (45, _), (46, _), (47, _), (48, _), (49, _), (50, _), (51, _)], _⟩ (_ :: _ :: _ :: _ :: _ :: ψ) rfl rfl ?_
                refine JL_fieldAddrE fo51_0 rfl (by first | exact Reads.view (by repeat (first | with_reducible exact mm0 | refine mmS ?_))) (by rw [pcells_length]; omega) ?_
                exact JL_nil (JE_stepV rfl ss0))), OblS_V (fun vals ex ψ => (by
                refine JL_normQ ⟨60, [(40, _), (41, _), (42, _), (43, _), (44, _), (45, _), (46, _), (47, _), (48, _), (49, _), (50, _), (51, _)], _⟩ (_ :: _ :: _ :: _ :: _ :: ψ) rfl rfl ?_
                refine JL_loadE ty3 rfl (by first | exact Reads.view (by repeat (first | with_reducible exact mm0 | refine mmS ?_))) (pcells_one (by omega)).1 ?_
                exact JL_nil (JE_stepV rfl ss0))), OblS_V (fun vals ex ψ => (by
                refine JL_normQ ⟨60, [(40, _), (41, _), (42, _), (43, _), (44, _), (45, _), (46, _), (47, _), (48, _), (49, _), (50, _), (51, _)], _⟩ (_ :: _ :: _ :: _ :: _ :: ψ) rfl rfl ?_
                refine JL_move rfl ?_
                exact JL_nil (JE_stepV rfl ss0))), OblS_V (fun vals ex ψ => (by
                refine JL_normQ ⟨60, [(40, _), (41, _), (42, _), (43, _), (44, _), (45, _), (46, _), (47, _), (48, _), (49, _), (50, _), (51, _)], _⟩ (_ :: _ :: _ :: _ :: _ :: ψ) rfl rfl ?_
                refine JL_move rfl ?_
                exact JL_nil (JE_stepV rfl ss0))), OblS_V (fun vals ex ψ => (by
                refine JL_normQ ⟨60, [(40, _), (41, _), (42, _), (43, _), (44, _), (45, _), (46, _), (47, _), (48, _), (49, _), (50, _), (51, _)], _⟩ (_ :: _ :: _ :: _ :: _ :: ψ) rfl rfl ?_
                refine JL_indexAddr j sl22 rfl rfl rfl (by omega) (by first | exact Reads.view (by repeat (first | with_reducible exact mm0 | refine mmS ?_))) (by rw [pcells_length]; omega) ?_
                exact JL_nil (JE_stepV rfl ss0))), OblS_V (fun vals ex ψ => (by
                refine JL_normQ ⟨60, [(40, _), (41, _), (42, _), (43, _), (44, _), (45, _), (46, _), (47, _), (48, _), (49, _), (50, _), (51, _)], _⟩ (_ :: _ :: _ :: _ :: _ :: ψ) rfl rfl ?_
                refine JL_fieldAddrE fo51_1 rfl (by first | exact Reads.view (by repeat (first | with_reducible exact mm0 | refine mmS ?_))) (by rw [pcells_length]; omega) ?_
                exact JL_nil (JE_stepV rfl ss0))), OblS_V (fun vals ex ψ => (by
                refine JL_normQ ⟨60, [(40, _), (41, _), (42, _), (43, _), (44, _), (45, _), (46, _), (47, _), (48, _), (49, _), (50, _), (51, _)], _⟩ (_ :: _ :: _ :: _ :: _ :: ψ) rfl rfl ?_
                refine JL_loadE ty3 rfl (by first | exact Reads.view (by repeat (first | with_reducible exact mm0 | refine mmS ?_))) (pcells_one (by omega)).2 ?_
                exact JL_nil (JE_stepV rfl ss0))), OblS_V (fun vals ex ψ => (by
                refine JL_normQ ⟨60, [(40, _), (41, _), (42, _), (43, _), (44, _), (45, _), (46, _), (47, _), (48, _), (49, _), (50, _), (51, _)], _⟩ (_ :: _ :: _ :: _ :: _ :: ψ) rfl rfl ?_
                refine JL_build (cs := [_, _]) [(0, [_]), (1, [_])] st51 ⟨⟨rfl, _, rfl, rfl⟩, ⟨rfl, _, rfl, rfl⟩, rfl⟩ rfl ?_
                exact JL_nil (JE_stepV rfl ss0))), trivial⟩ (by kernel_rfl) (fun vals bs => ?_)
            refine JL_normL [_, _] ⟨60, [(40, _), (41, _), (42, _), (43, _), (44, _), (45, _), (46, _), (47, _), (48, _), (49, _), (50, _), (51, _)], _⟩ [] [_, _, _, _, _] rfl rfl rfl rfl ?_
            refine JL_callA' true (AsksA.cons (holdsA_of_mem (by repeat (first | with_reducible exact mm0 | refine mmS ?_))) AsksA.nil) (ins_con (l := r2) (p := ((l.getD i dP).1, (m.getD j dP).2)) (by omega) hc4) rfl ca37 ⟨rfl, rfl, rfl⟩ ?_
            rintro _ _ ⟨ad52, c52, rfl, hc52, rfl⟩
            refine JL_assign rfl ?_
            refine JL_done_up 60 [] [_, _, _, _, _, _] rfl rfl (by simp only [nrmF]; rfl) rfl rfl ?_
            refine JC_seq ?_
            refine JC_region ?_
            refine JL_move rfl ?_
            refine JL_len sl22 rfl ?_
            refine JL_gtr rfl rfl ?_
            refine JL_split (fun h55 => ?_) (fun h55 => ?_)
            · refine JL_done_up 60 [] [_, _, _, _, _, _] rfl rfl (by simp only [nrmF]; rfl) rfl rfl ?_
              refine JC_true rfl ?_
              refine JC_seq ?_
              refine JC_region ?_
              refine JL_assign rfl ?_
              refine JL_assign rfl ?_
              refine JL_done_up 60 [] [_, _, _, _, _, _] rfl rfl (by simp only [nrmF]; rfl) rfl rfl ?_
              refine JC_ret ?_
              refine JE_block_ret ?_
              refine JE_then_ret ?_
              refine JE_nextS_ret ?_
              refine JE_block_ret ?_
              refine JE_block_ret ?_
              refine JE_then_ret ?_
              refine JE_nextS_ret ?_
              refine JE_block_ret ?_
              refine JE_then_ret ?_
              have hfull := cmp_full (l := l) (m := m) (i := i) (j := j + 1) (by omega) (by omega) (by rw [cmpJ, if_pos h39, ← List.append_assoc, srt_snoc, hr2]; omega)
              refine JE_addView (f := true) (p := vCells none (pcells [])) (fun _ _ => nilP) ?_
              refine JE_ret (vs := [_, _]) [vCells none (pcells [])] Try.results27 ⟨rfl, rfl, rfl⟩ ?_ ?_
              · rw [(both_ok (R := cmpL l m l.length) ⟨h10, h14⟩).1, (both_ok (R := cmpL l m l.length) ⟨h10, h14⟩).2, (sortR_no hfull).1, (sortR_no hfull).2]; exact ⟨none, 0, rfl, caps0, rfl⟩
              · exact (all_cons (by repeat (first | with_reducible exact mm0 | refine mmS ?_)) all_nil)
            · refine JL_done_up 60 [] [_, _, _, _, _, _] rfl rfl (by simp only [nrmF]; rfl) rfl rfl ?_
              refine JC_false rfl ?_
              refine JC_skip ?_
              refine JE_block_normal ?_
              refine JE_then ?_
              refine JC_region ?_
              refine JL_move rfl ?_
              refine JL_add_to rfl rfl (IntWalk.i64_in _ (by omega)) ?_
              refine JL_assign rfl ?_
              refine JL_nil_up 60 [] [_, _, _, _, _, _] rfl rfl (by simp only [nrmF]; rfl) rfl rfl ?_
              refine JE_nextS (j + 1, insP r2 ((l.getD i dP).1, (m.getD j dP).2), ad52, c52) (by kernel_rfl) ?_ ?_ (by kernel_rfl) ?_
              · exact ⟨by omega, by rw [cmpJ, if_pos h39, ← List.append_assoc, srt_snoc, hr2], by omega, hc52.1, hc52.2⟩
              · first | omega | (dsimp only; omega)
              · exact subset_app (subset_cons (by repeat (first | with_reducible exact mm0 | refine mmS ?_)) subset_nil) (ssS (ssS ss0))
          · refine JL_done_up 60 [] [_, _, _, _, _] rfl rfl (by simp only [nrmF]; rfl) rfl rfl ?_
            refine JC_false rfl ?_
            refine JC_skip ?_
            refine JE_then ?_
            refine JC_seq ?_
            refine JC_region ?_
            refine JL_move rfl ?_
            refine JL_len sl22 rfl ?_
            refine JL_gtr rfl rfl ?_
            refine JL_split (fun h55 => ?_) (fun h55 => ?_)
            · refine JL_done_up 60 [] [_, _, _, _, _] rfl rfl (by simp only [nrmF]; rfl) rfl rfl ?_
              refine JC_true rfl ?_
              refine JC_seq ?_
              refine JC_region ?_
              refine JL_assign rfl ?_
              refine JL_assign rfl ?_
              refine JL_done_up 60 [] [_, _, _, _, _] rfl rfl (by simp only [nrmF]; rfl) rfl rfl ?_
              refine JC_ret ?_
              refine JE_block_ret ?_
              refine JE_then_ret ?_
              refine JE_nextS_ret ?_
              refine JE_block_ret ?_
              refine JE_block_ret ?_
              refine JE_then_ret ?_
              refine JE_nextS_ret ?_
              refine JE_block_ret ?_
              refine JE_then_ret ?_
              refine JE_addView (f := true) (p := vCells none (pcells [])) (fun _ _ => nilP) ?_
              refine JE_ret (vs := [_, _]) [vCells none (pcells [])] Try.results27 ⟨rfl, rfl, rfl⟩ ?_ ?_
              · exact absurd h55 (by omega)
              · exact (all_cons (by repeat (first | with_reducible exact mm0 | refine mmS ?_)) all_nil)
            · refine JL_done_up 60 [] [_, _, _, _, _] rfl rfl (by simp only [nrmF]; rfl) rfl rfl ?_
              refine JC_false rfl ?_
              refine JC_skip ?_
              refine JE_block_normal ?_
              refine JE_then ?_
              refine JC_region ?_
              refine JL_move rfl ?_
              refine JL_add_to rfl rfl (IntWalk.i64_in _ (by omega)) ?_
              refine JL_assign rfl ?_
              refine JL_nil_up 60 [] [_, _, _, _, _] rfl rfl (by simp only [nrmF]; rfl) rfl rfl ?_
              refine JE_nextS (j + 1, r2, ad4, cap4) (by kernel_rfl) ?_ ?_ (by kernel_rfl) ?_
              · exact ⟨by omega, by rw [cmpJ, if_neg h39, hr2], hr2128, hc4.1, hc4.2⟩
              · first | omega | (dsimp only; omega)
              · exact subset_app (subset_cons (by repeat (first | with_reducible exact mm0 | refine mmS ?_)) subset_nil) (ssS ss0)
        · refine JL_done_up 60 [] [_, _, _, _, _] rfl rfl (by simp only [nrmF]; rfl) rfl rfl ?_
          refine JC_false rfl ?_
          refine JC_exit ?_
          refine JE_then_exit ?_
          refine JE_nextS_exit ?_
          refine JE_block_exit ?_
          refine JE_block_normal ?_
          refine JE_then ?_
          refine JC_region ?_
          refine JL_move rfl ?_
          refine JL_add_to rfl rfl (IntWalk.i64_in _ (by omega)) ?_
          refine JL_assign rfl ?_
          refine JL_nil_up 60 [] [_, _, _, _, _] rfl rfl (by simp only [nrmF]; rfl) rfl rfl ?_
          refine JE_nextS (i + 1, r2, ad4, cap4) (by kernel_rfl) ?_ ?_ (by kernel_rfl) ?_
          · exact ⟨by omega, by rw [cmpL, ← hr2, show j = m.length from by omega], hr2128, hc4.1, hc4.2⟩
          · first | omega | (dsimp only; omega)
          · exact subset_app (subset_cons (by repeat (first | with_reducible exact mm0 | refine mmS ?_)) subset_nil) (ssS (ssS ss0))
      · refine JL_done_up 60 [] [_, _, _, _] rfl rfl (by simp only [nrmF]; rfl) rfl rfl ?_
        refine JC_false rfl ?_
        refine JC_exit ?_
        refine JE_then_exit ?_
        refine JE_nextS_exit ?_
        refine JE_block_exit ?_
        refine JE_then ?_
        refine JC_seq ?_
        have hie : i = l.length := by omega
        rw [hie] at hr
        refine JC_region ?_
        refine JL_move rfl ?_
        refine JL_callA' true (AsksA.cons (holdsA_of_mem (by repeat (first | with_reducible exact mm0 | refine mmS ?_))) AsksA.nil) (lim_con (l := r) (by omega) hc3) rfl ca43 ⟨rfl, rfl⟩ ?_
        rintro _ _ ⟨ad57, c57, rfl, hc57, rfl⟩
        refine JL_extract rfl rfl ?_
        refine JL_extract rfl rfl ?_
        refine JL_assign rfl ?_
        refine JL_assign rfl ?_
        refine JL_done_up 60 [] [_, _, _, _, _] rfl rfl (by simp only [nrmF]; rfl) rfl rfl ?_
        refine JC_ret ?_
        refine JE_ret (vs := [_, _]) [vCells ad57 (pcells (limR r))] Try.results27 ⟨rfl, rfl, rfl⟩ ?_ ?_
        · rw [(both_ok (R := cmpL l m l.length) ⟨h10, h14⟩).1, (both_ok (R := cmpL l m l.length) ⟨h10, h14⟩).2, ← (lim_srt (cmpL l m l.length)).1, ← (lim_srt (cmpL l m l.length)).2, hr]; exact ⟨ad57, c57, rfl, hc57, rfl⟩
        · exact (all_cons (by repeat (first | with_reducible exact mm0 | refine mmS ?_)) all_nil)
    · refine JL_guard_yes rfl rfl ?_
      refine JL_not rfl ?_
      rw [Bool.not_false]
      refine JL_pick_f rfl rfl ?_
      refine JL_done_up 60 [] [_, _] rfl rfl (by simp only [nrmF]; rfl) rfl rfl ?_
      refine JC_true rfl ?_
      refine JC_seq ?_
      refine JC_region ?_
      refine JL_assign rfl ?_
      refine JL_assign rfl ?_
      refine JL_done_up 60 [] [_, _] rfl rfl (by simp only [nrmF]; rfl) rfl rfl ?_
      refine JC_ret ?_
      refine JE_then_ret ?_
      refine JE_addView (f := true) (p := vCells none (pcells [])) (fun _ _ => nilP) ?_
      refine JE_ret (vs := [_, _]) [vCells none (pcells [])] Try.results27 ⟨rfl, rfl, rfl⟩ ?_ ?_
      · rw [(both_no (R := cmpL l m l.length) (fun e => h14 e.2)).1, (both_no (R := cmpL l m l.length) (fun e => h14 e.2)).2]; exact ⟨none, 0, rfl, caps0, rfl⟩
      · exact (all_cons (by repeat (first | with_reducible exact mm0 | refine mmS ?_)) all_nil)
  · refine JL_not rfl ?_
    rw [Bool.not_false]
    refine JL_move rfl ?_
    refine JL_guard_no rfl rfl ?_
    refine JL_guard_no rfl rfl ?_
    refine JL_guard_no rfl rfl ?_
    refine JL_pick_t rfl rfl ?_
    refine JL_done_up 60 [] [_, _] rfl rfl (by simp only [nrmF]; rfl) rfl rfl ?_
    refine JC_true rfl ?_
    refine JC_seq ?_
    refine JC_region ?_
    refine JL_assign rfl ?_
    refine JL_assign rfl ?_
    refine JL_done_up 60 [] [_, _] rfl rfl (by simp only [nrmF]; rfl) rfl rfl ?_
    refine JC_ret ?_
    refine JE_then_ret ?_
    refine JE_addView (f := true) (p := vCells none (pcells [])) (fun _ _ => nilP) ?_
    refine JE_ret (vs := [_, _]) [vCells none (pcells [])] Try.results27 ⟨rfl, rfl, rfl⟩ ?_ ?_
    · rw [(both_no (R := cmpL l m l.length) (fun e => h10 e.1)).1, (both_no (R := cmpL l m l.length) (fun e => h10 e.1)).2]; exact ⟨none, 0, rfl, caps0, rfl⟩
    · exact (all_cons (by repeat (first | with_reducible exact mm0 | refine mmS ?_)) all_nil)

set_option maxHeartbeats 1000000 in
theorem runion_con {ad1 ad2 : Option Addr} {c1 c2 : Nat} {l m : List Pr} (hln : l.length ≤ 1000000) (hmn : m.length ≤ 1000000) (hc1 : l.length ≤ c1 ∧ c1 ≤ 9223372036854775807) :
    ConA Try.prog 29 [.slice ad1 l.length c1, .slice ad2 m.length c2] [vCells ad1 (pcells l), vCells ad2 (pcells m)]
      (SPP (bothR l m (l ++ m)) (bothE l m (l ++ m))) := by
  refine ConA_of Try.func29 rfl 33 _ rfl rfl ?_
  intro w0
  refine JC_norm ⟨33, [], [_, _, _, _, _, _, _, _, _, _, _, _, _, _, _, _, _, _, _, _, _, _, _, _, _, _, _, _, _, _, _, _, _]⟩ [] [_, _] rfl rfl rfl ?_
  refine JC_seq ?_
  refine JC_region ?_
  refine JL_assign rfl ?_
  refine JL_assign rfl ?_
  refine JL_done_up 33 [] [_, _] rfl rfl (by simp only [nrmF]; rfl) rfl rfl ?_
  refine JC_seq ?_
  refine JC_seq ?_
  refine JC_region ?_
  refine JL_move rfl ?_
  refine JL_callF' (Asks.cons (holds_of_mem (by repeat (first | with_reducible exact mm0 | refine mmS ?_))) Asks.nil) (rvalid_con (by omega)) rfl ca25 ⟨rfl, rfl⟩ ?_
  rintro _ _ ⟨rfl, rfl⟩
  refine JL_split (fun h9 => ?_) (fun h9 => ?_)
  · refine JL_not rfl ?_
    rw [Bool.not_true]
    refine JL_move rfl ?_
    refine JL_guard_yes rfl rfl ?_
    refine JL_move rfl ?_
    refine JL_guard_yes rfl rfl ?_
    refine JL_callF' (Asks.cons (holds_of_mem (by repeat (first | with_reducible exact mm0 | refine mmS ?_))) Asks.nil) (rvalid_con (by omega)) rfl ca25 ⟨rfl, rfl⟩ ?_
    rintro _ _ ⟨rfl, rfl⟩
    refine JL_split (fun h13 => ?_) (fun h13 => ?_)
    · refine JL_guard_yes rfl rfl ?_
      refine JL_not rfl ?_
      rw [Bool.not_true]
      refine JL_pick_f rfl rfl ?_
      refine JL_done_up 33 [] [_, _] rfl rfl (by simp only [nrmF]; rfl) rfl rfl ?_
      refine JC_false rfl ?_
      refine JC_skip ?_
      refine JE_then ?_
      refine JC_seq ?_
      refine JC_region ?_
      refine JL_move rfl ?_
      refine JL_assign rfl ?_
      refine JL_done_up 33 [] [_, _] rfl rfl (by simp only [nrmF]; rfl) rfl rfl ?_
      refine JC_seq ?_
      refine JC_seq ?_
      refine JC_region ?_
      refine JL_assign rfl ?_
      refine JL_done_up 33 [] [_, _] rfl rfl (by simp only [nrmF]; rfl) rfl rfl ?_
      refine JC_block ?_
      refine JC_loopS ((Nat) × (List Pr) × (Option Addr) × (Nat)) (fun (i, r, ad3, cap3) => i ≤ m.length ∧ unF l m i = r ∧ r.length ≤ cap3 ∧ cap3 ≤ 9223372036854775807) (fun (i, r, ad3, cap3) => m.length - i) (fun u (i, r, ad3, cap3) => [none, none, none, none, none, none, some (.slice ad3 r.length cap3), some (.int .i64 (i : Nat)), none, none, none, none, none, none, none, none, none, some (u 17), some (u 18), some (u 19), some (u 20), some (u 21), some (u 22), some (u 23), some (u 24), some (u 25), some (u 26), some (u 27), some (u 28), none, none, none, none]) (fun (i, r, ad3, cap3) => []) (fun (i, r, ad3, cap3) => [(true, vCells ad3 (pcells r))]) (0, l, ad1, c1) (by kernel_rfl) ?_ (by kernel_rfl) ?_ ?_
      · exact ⟨Nat.zero_le _, rfl, hc1.1, hc1.2⟩
      · exact (subset_cons (by repeat (first | with_reducible exact mm0 | refine mmS ?_)) subset_nil)
      intro u i hC
      obtain ⟨i, r, ad3, cap3⟩ := i
      obtain ⟨hi, hr, hc3⟩ := hC
      refine JC_norm ⟨33, [], [_, _, _, _, _, _, _, _, _, _, _, _, _, _, _, _, _, _, _, _, _, _, _, _, _, _, _, _, _, _, _, _, _]⟩ [] [_, _, _] rfl rfl rfl ?_
      have hul := unF_len l m i
      rw [hr] at hul
      have hl8 := h9.2
      have hm8 := h13.2
      refine JC_seq ?_
      refine JC_seq ?_
      refine JC_region ?_
      refine JL_move rfl ?_
      refine JL_move rfl ?_
      refine JL_len sl22 rfl ?_
      refine JL_lss rfl rfl ?_
      refine JL_split (fun h20 => ?_) (fun h20 => ?_)
      · refine JL_done_up 33 [] [_, _, _] rfl rfl (by simp only [nrmF]; rfl) rfl rfl ?_
        refine JC_true rfl ?_
        refine JC_skip ?_
        refine JE_then ?_
        refine JC_seq ?_
        refine JC_block ?_
        refine JC_region ?_
        refine JL_move rfl ?_
        refine JL_move rfl ?_
        refine JL_move rfl ?_
        refine JL_indexAddr i sl22 rfl rfl rfl (by omega) (by first | exact Reads.view (by repeat (first | with_reducible exact mm0 | refine mmS ?_))) (by rw [pcells_length]; omega) ?_
        refine JL_loadEA (vs := [_, _]) ty51 (Nat.zero_lt_succ _) rfl (by first | exact Reads.view (by repeat (first | with_reducible exact mm0 | refine mmS ?_))) (pcells_getA (by omega)) ?_
        refine JL_callA' true (AsksA.cons (holdsA_of_mem (by repeat (first | with_reducible exact mm0 | refine mmS ?_))) AsksA.nil) (ins_con (l := r) (p := m.getD i dP) (by omega) hc3) rfl ca37 ⟨rfl, rfl, rfl⟩ ?_
        rintro _ _ ⟨ad28, c28, rfl, hc28, rfl⟩
        refine JL_assign rfl ?_
        refine JL_nil_up 33 [] [_, _, _, _] rfl rfl (by simp only [nrmF]; rfl) rfl rfl ?_
        refine JE_block_normal ?_
        refine JE_then ?_
        refine JC_region ?_
        refine JL_move rfl ?_
        refine JL_add_to rfl rfl (IntWalk.i64_in _ (by omega)) ?_
        refine JL_assign rfl ?_
        refine JL_nil_up 33 [] [_, _, _, _] rfl rfl (by simp only [nrmF]; rfl) rfl rfl ?_
        refine JE_nextS (i + 1, insP r (m.getD i dP), ad28, c28) (by kernel_rfl) ?_ ?_ (by kernel_rfl) ?_
        · exact ⟨by omega, by rw [unF, hr], hc28.1, hc28.2⟩
        · first | omega | (dsimp only; omega)
        · exact subset_app (subset_cons (by repeat (first | with_reducible exact mm0 | refine mmS ?_)) subset_nil) (ssS (ssS ss0))
      · refine JL_done_up 33 [] [_, _, _] rfl rfl (by simp only [nrmF]; rfl) rfl rfl ?_
        refine JC_false rfl ?_
        refine JC_exit ?_
        refine JE_then_exit ?_
        refine JE_nextS_exit ?_
        refine JE_block_exit ?_
        refine JE_then ?_
        refine JC_seq ?_
        have hie : i = m.length := by omega
        rw [hie, un_all h9.asc] at hr
        have hul := srt_len (l ++ m)
        rw [hr, List.length_append] at hul
        have hl8 := h9.2
        have hm8 := h13.2
        refine JC_region ?_
        refine JL_move rfl ?_
        refine JL_callA' true (AsksA.cons (holdsA_of_mem (by repeat (first | with_reducible exact mm0 | refine mmS ?_))) AsksA.nil) (lim_con (l := r) (by omega) hc3) rfl ca43 ⟨rfl, rfl⟩ ?_
        rintro _ _ ⟨ad30, c30, rfl, hc30, rfl⟩
        refine JL_extract rfl rfl ?_
        refine JL_extract rfl rfl ?_
        refine JL_assign rfl ?_
        refine JL_assign rfl ?_
        refine JL_done_up 33 [] [_, _, _, _] rfl rfl (by simp only [nrmF]; rfl) rfl rfl ?_
        refine JC_ret ?_
        refine JE_ret (vs := [_, _]) [vCells ad30 (pcells (limR r))] Try.results29 ⟨rfl, rfl, rfl⟩ ?_ ?_
        · rw [(both_ok (R := l ++ m) ⟨h9, h13⟩).1, (both_ok (R := l ++ m) ⟨h9, h13⟩).2, ← (lim_srt (l ++ m)).1, ← (lim_srt (l ++ m)).2, hr]; exact ⟨ad30, c30, rfl, hc30, rfl⟩
        · exact (all_cons (by repeat (first | with_reducible exact mm0 | refine mmS ?_)) all_nil)
    · refine JL_guard_yes rfl rfl ?_
      refine JL_not rfl ?_
      rw [Bool.not_false]
      refine JL_pick_f rfl rfl ?_
      refine JL_done_up 33 [] [_, _] rfl rfl (by simp only [nrmF]; rfl) rfl rfl ?_
      refine JC_true rfl ?_
      refine JC_seq ?_
      refine JC_region ?_
      refine JL_assign rfl ?_
      refine JL_assign rfl ?_
      refine JL_done_up 33 [] [_, _] rfl rfl (by simp only [nrmF]; rfl) rfl rfl ?_
      refine JC_ret ?_
      refine JE_then_ret ?_
      refine JE_addView (f := true) (p := vCells none (pcells [])) (fun _ _ => nilP) ?_
      refine JE_ret (vs := [_, _]) [vCells none (pcells [])] Try.results29 ⟨rfl, rfl, rfl⟩ ?_ ?_
      · rw [(both_no (R := l ++ m) (fun e => h13 e.2)).1, (both_no (R := l ++ m) (fun e => h13 e.2)).2]; exact ⟨none, 0, rfl, caps0, rfl⟩
      · exact (all_cons (by repeat (first | with_reducible exact mm0 | refine mmS ?_)) all_nil)
  · refine JL_not rfl ?_
    rw [Bool.not_false]
    refine JL_move rfl ?_
    refine JL_guard_no rfl rfl ?_
    refine JL_guard_no rfl rfl ?_
    refine JL_guard_no rfl rfl ?_
    refine JL_pick_t rfl rfl ?_
    refine JL_done_up 33 [] [_, _] rfl rfl (by simp only [nrmF]; rfl) rfl rfl ?_
    refine JC_true rfl ?_
    refine JC_seq ?_
    refine JC_region ?_
    refine JL_assign rfl ?_
    refine JL_assign rfl ?_
    refine JL_done_up 33 [] [_, _] rfl rfl (by simp only [nrmF]; rfl) rfl rfl ?_
    refine JC_ret ?_
    refine JE_then_ret ?_
    refine JE_addView (f := true) (p := vCells none (pcells [])) (fun _ _ => nilP) ?_
    refine JE_ret (vs := [_, _]) [vCells none (pcells [])] Try.results29 ⟨rfl, rfl, rfl⟩ ?_ ?_
    · rw [(both_no (R := l ++ m) (fun e => h9 e.1)).1, (both_no (R := l ++ m) (fun e => h9 e.1)).2]; exact ⟨none, 0, rfl, caps0, rfl⟩
    · exact (all_cons (by repeat (first | with_reducible exact mm0 | refine mmS ?_)) all_nil)

theorem grow_con {n : Nat} (hn : n ≤ 1000000) :
    ConO Try.prog 56 [.slice none 0 0, .int .i64 (n : Nat)] [] []
      (fun v rout φo => ∃ (ad : Option Addr) (c : Nat), v = .slice ad 0 c ∧ φo = [] ∧ rout = [osl ad 0 c 51 2 (pcells [])]) := by
  refine ConO_of Try.func56 rfl 27 _ rfl rfl ?_
  intro w0 p0 p1
  refine JC_norm ⟨27, [], [_, _, _, _, _, _, _, _, _, _, _, _, _, _, _, _, _, _, _, _, _, _, _, _, _, _, _]⟩ [] [_, _] rfl rfl rfl ?_
  refine JC_seq ?_
  refine JC_region ?_
  refine JL_assign rfl ?_
  refine JL_done_up 27 [] [_, _] rfl rfl (by simp only [nrmF]; rfl) rfl rfl ?_
  refine JC_seq ?_
  refine JC_seq ?_
  refine JC_region ?_
  refine JL_move rfl ?_
  refine JL_lss rfl rfl ?_
  refine JL_split (fun h6 => ?_) (fun h6 => ?_)
  · exact absurd h6 (by omega)
  · refine JL_done_up 27 [] [_, _] rfl rfl (by simp only [nrmF]; rfl) rfl rfl ?_
    refine JC_false rfl ?_
    refine JC_skip ?_
    refine JE_then ?_
    refine JC_seq ?_
    refine JC_seq ?_
    refine JC_region ?_
    refine JL_move rfl ?_
    refine JL_move rfl ?_
    refine JL_cap sl22 rfl ?_
    refine JL_move rfl ?_
    refine JL_len sl22 rfl ?_
    refine JL_sub_to rfl rfl (IntWalk.i64_in _ (by omega)) ?_
    refine JL_sub_to rfl rfl (IntWalk.i64_in _ (by omega)) ?_
    refine JL_assign rfl ?_
    refine JL_done_up 27 [] [_, _] rfl rfl (by simp only [nrmF]; rfl) rfl rfl ?_
    refine JC_seq ?_
    refine JC_region ?_
    refine JL_move rfl ?_
    refine JL_gtr rfl rfl ?_
    refine JL_split (fun h16 => ?_) (fun h16 => ?_)
    · refine JL_done_up 27 [] [_, _] rfl rfl (by simp only [nrmF]; rfl) rfl rfl ?_
      refine JC_true rfl ?_
      refine JC_region ?_
      refine JL_move rfl ?_
      refine JL_move rfl ?_
      refine JL_cap sl22 rfl ?_
      refine JL_sliceTo 0 sl22 rfl rfl rfl (Nat.le_refl _) ?_
      refine JL_move rfl ?_
      refine JL_growNil n sl22 rfl ui3 rfl rfl rfl (by omega) (by decide) (by omega) (by omega) (fun g22 cap22 hc22 => ?_)
      refine JL_move rfl ?_
      refine JL_len sl22 rfl ?_
      refine JL_sliceTo 0 sl22 rfl rfl rfl (Nat.zero_le _) ?_
      refine JL_assign rfl ?_
      refine JL_done_up 27 [osl _ _ _ _ _ _] [_, _] rfl rfl (by simp only [nrmF]; rfl) rfl rfl ?_
      refine JC_seq ?_
      refine JC_region ?_
      refine JL_move rfl ?_
      refine JL_assign rfl ?_
      refine JL_done_up 27 [osl _ _ _ _ _ _] [_, _] rfl rfl (by simp only [nrmF]; rfl) rfl rfl ?_
      refine JC_ret ?_
      refine JE_retO (vs := [_]) [] Try.results56 ⟨rfl, rfl⟩ ?_ ?_ (by repeat (first | with_reducible exact mm0 | refine mmS ?_)) (by repeat (first | with_reducible exact mm0 | refine mmS ?_))
      · exact ⟨some ⟨g22, 0, none⟩, cap22, rfl, rfl, rfl⟩
      · exact all_nil
    · refine JL_done_up 27 [] [_, _] rfl rfl (by simp only [nrmF]; rfl) rfl rfl ?_
      refine JC_false rfl ?_
      refine JC_skip ?_
      refine JE_then ?_
      refine JC_seq ?_
      refine JC_region ?_
      refine JL_move rfl ?_
      refine JL_assign rfl ?_
      refine JL_done_up 27 [] [_, _] rfl rfl (by simp only [nrmF]; rfl) rfl rfl ?_
      refine JC_ret ?_
      refine JE_addNil 51 2 ?_
      refine JE_retO (vs := [_]) [] Try.results56 ⟨rfl, rfl⟩ ?_ ?_ (by repeat (first | with_reducible exact mm0 | refine mmS ?_)) (by repeat (first | with_reducible exact mm0 | refine mmS ?_))
      · exact ⟨none, 0, rfl, rfl, rfl⟩
      · exact all_nil

end Go.Fw.K
