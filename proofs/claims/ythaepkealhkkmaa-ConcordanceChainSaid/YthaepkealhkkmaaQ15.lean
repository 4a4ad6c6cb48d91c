/- Walks through functions of the given program: each meets its contract. (Printed by a program of this repo.) -/
import Derived.Test.YthaepkealhkkmaaQ14
import Derived.Test.YthaepkealhkkmaaProg
namespace Go.Fw.Q15
open Go Go.RowKit Go.Proofs Go.Nat9 Go.Fw
attribute [local irreducible] JC JL JE
theorem ca33 : callable Try.prog 33 = true := by kernel_rfl
theorem ca35 : callable Try.prog 35 = true := by kernel_rfl
theorem ca37 : callable Try.prog 37 = true := by kernel_rfl
theorem fo41_0 : fOf Try.prog 41 0 = some 0 := by kernel_rfl
theorem fo48_0 : fOf Try.prog 48 0 = some 0 := by kernel_rfl
theorem fo48_1 : fOf Try.prog 48 1 = some 1 := by kernel_rfl
theorem mixed : Try.prog.follows .mixedOrders = true := by kernel_rfl
theorem sl22 : slOf Try.prog 22 = some (51, 2, 16, [.int .i64 0, .int .i64 0]) := by kernel_rfl
theorem sl39 : slOf Try.prog 39 = some (48, 2, 16, [.int .i64 0, .int .i64 0]) := by kernel_rfl
theorem st51 : stOf Try.prog 51 = some ([(0, 1), (1, 1)], [.int .i64 0, .int .i64 0]) := by kernel_rfl
theorem ty3 : tyOf Try.prog 3 = some (false, 1) := by kernel_rfl
theorem ty39 : tyOf Try.prog 39 = some (false, 1) := by kernel_rfl
theorem ty41 : tyOf Try.prog 41 = some (true, 2) := by kernel_rfl
theorem ty51 : tyOf Try.prog 51 = some (true, 2) := by kernel_rfl
end Go.Fw.Q15
namespace Go.Fw.K
open Go Go.RowKit Go.Proofs Go.Nat9 Go.Fw Go.Fw.Q15
attribute [local irreducible] JC JL JE

theorem rnumT_con {ad1 ad2 : Option Addr} {c1 c2 : Nat} {E : List Pr} {R : List Int} {k : Int} (hE : E.length ≤ 1000000) (h : edC E R) (hB : fndB E k = true) : ConF Try.prog 35 [.agg #[.slice ad1 E.length c1, .slice ad2 R.length c2], .int .i64 k] [vCells ad1 (pcells E), vCells ad2 (i64s R)] (fun v φo => v = .tuple #[.int .i64 (fndV E k), .int .i64 0] ∧ φo = []) := by
  have e := rnumber_con (ad1 := ad1) (ad2 := ad2) (c1 := c1) (c2 := c2) (E := E) (R := R) (k := k) hE
  rw [(num_ok h hB).1, (num_ok h hB).2] at e
  exact e
theorem rnumF_con {ad1 ad2 : Option Addr} {c1 c2 : Nat} {E : List Pr} {R : List Int} {k : Int} (hE : E.length ≤ 1000000) (h : edC E R) (hB : fndB E k = false) : ConF Try.prog 35 [.agg #[.slice ad1 E.length c1, .slice ad2 R.length c2], .int .i64 k] [vCells ad1 (pcells E), vCells ad2 (i64s R)] (fun v φo => v = .tuple #[.int .i64 (0), .int .i64 7] ∧ φo = []) := by
  have e := rnumber_con (ad1 := ad1) (ad2 := ad2) (c1 := c1) (c2 := c2) (E := E) (R := R) (k := k) hE
  rw [(num_none h hB).1, (num_none h hB).2] at e
  exact e


set_option maxHeartbeats 2000000 in
theorem rof_con {ad1 ad2 ad3 ad4 : Option Addr} {c1 c2 c3 c4 : Nat} {E F : List Pr} {R S : List Int} (hE : E.length ≤ 1000000) (hF : F.length ≤ 1000000) :
    ConF Try.prog 32 [.agg #[.slice ad1 E.length c1, .slice ad2 R.length c2], .agg #[.slice ad3 F.length c3, .slice ad4 S.length c4]] [vCells ad1 (pcells E), vCells ad2 (i64s R), vCells ad3 (pcells F), vCells ad4 (i64s S)]
      (SPP (ofR E R F S) (ofE E R F S)) := by
  refine ConF_of Try.func32 rfl 49 _ rfl rfl ?_
  intro w0
  refine JC_norm ⟨49, [], [_, _, _, _, _, _, _, _, _, _, _, _, _, _, _, _, _, _, _, _, _, _, _, _, _, _, _, _, _, _, _, _, _, _, _, _, _, _, _, _, _, _, _, _, _, _, _, _, _]⟩ [] [_, _, _, _] rfl rfl rfl ?_
  refine JC_seq ?_
  refine JC_region ?_
  refine JL_box rfl rfl (fun b2 => ?_)
  refine JL_box rfl rfl (fun b3 => ?_)
  refine JL_assign rfl ?_
  refine JL_assign rfl ?_
  refine JL_done_up 49 [box _ _ [_, _], box _ _ [_, _]] [_, _, _, _] rfl rfl (by simp only [nrmF]; rfl) rfl rfl ?_
  refine JC_seq ?_
  refine JC_seq ?_
  refine JC_region ?_
  refine JL_loadA (vs := [_, _]) 0 ty41 rfl rfl ⟨rfl, rfl, trivial⟩ ?_
  refine JL_callF' (Asks.cons (holds_of_mem (by repeat (first | with_reducible exact mm0 | refine mmS ?_))) (Asks.cons (holds_of_mem (by repeat (first | with_reducible exact mm0 | refine mmS ?_))) Asks.nil)) (redv_con hE) rfl ca33 ⟨rfl, rfl⟩ ?_
  rintro _ _ ⟨rfl, rfl⟩
  refine JL_split (fun h11 => ?_) (fun h11 => ?_)
  · refine JL_not rfl ?_
    rw [Bool.not_true]
    refine JL_move rfl ?_
    refine JL_guard_yes rfl rfl ?_
    refine JL_loadA (vs := [_, _]) 1 ty41 rfl rfl ⟨rfl, rfl, trivial⟩ ?_
    refine JL_guard_yes rfl rfl ?_
    refine JL_callF' (Asks.cons (holds_of_mem (by repeat (first | with_reducible exact mm0 | refine mmS ?_))) (Asks.cons (holds_of_mem (by repeat (first | with_reducible exact mm0 | refine mmS ?_))) Asks.nil)) (redv_con (E := F) (R := S) hF) rfl ca33 ⟨rfl, rfl⟩ ?_
    rintro _ _ ⟨rfl, rfl⟩
    refine JL_split (fun h15 => ?_) (fun h15 => ?_)
    · refine JL_guard_yes rfl rfl ?_
      refine JL_not rfl ?_
      rw [Bool.not_true]
      refine JL_pick_f rfl rfl ?_
      refine JL_done_up 49 [box _ _ [_, _], box _ _ [_, _]] [_, _, _, _] rfl rfl (by simp only [nrmF]; rfl) rfl rfl ?_
      refine JC_false rfl ?_
      refine JC_skip ?_
      refine JE_then ?_
      refine JC_seq ?_
      refine JC_region ?_
      refine JL_assign rfl ?_
      refine JL_done_up 49 [box _ _ [_, _], box _ _ [_, _]] [_, _, _, _] rfl rfl (by simp only [nrmF]; rfl) rfl rfl ?_
      refine JC_seq ?_
      refine JC_seq ?_
      refine JC_region ?_
      refine JL_assign rfl ?_
      refine JL_done_up 49 [box _ _ [_, _], box _ _ [_, _]] [_, _, _, _] rfl rfl (by simp only [nrmF]; rfl) rfl rfl ?_
      refine JC_block ?_
      refine JC_addView (f := true) (p := vCells none (pcells [])) (fun _ _ => nilP) ?_
      refine JC_loopS ((Nat) × (List Pr) × (Option Addr) × (Nat)) (fun (i, r, ad5, cap5) => i ≤ E.length ∧ srt (ofL E F i) = r ∧ r.length ≤ i ∧ r.length ≤ cap5 ∧ cap5 ≤ 9223372036854775807) (fun (i, r, ad5, cap5) => E.length - i) (fun u (i, r, ad5, cap5) => [none, none, none, none, none, none, some (.slice ad5 r.length cap5), some (.int .i64 (i : Nat)), some (u 8), some (u 9), none, none, none, none, none, none, none, none, some (u 18), some (u 19), some (u 20), some (u 21), some (u 22), some (u 23), some (u 24), some (u 25), some (u 26), some (u 27), some (u 28), some (u 29), some (u 30), some (u 31), some (u 32), some (u 33), some (u 34), some (u 35), some (u 36), some (u 37), some (u 38), some (u 39), some (u 40), some (u 41), some (u 42), some (u 43), some (u 44), some (u 45), some (u 46), some (u 47), none]) (fun (i, r, ad5, cap5) => [none, none]) (fun (i, r, ad5, cap5) => [(true, vCells ad5 (pcells r))]) (0, [], none, 0) (by kernel_rfl) ?_ (by kernel_rfl) ?_ ?_
      · exact ⟨Nat.zero_le _, rfl, Nat.le_refl _, Nat.le_refl _, Nat.zero_le _⟩
      · exact (subset_cons (by repeat (first | with_reducible exact mm0 | refine mmS ?_)) subset_nil)
      intro u i hC
      obtain ⟨i, r, ad5, cap5⟩ := i
      obtain ⟨hi, hr, hrn, hcp⟩ := hC
      refine JC_norm ⟨49, [], [_, _, _, _, _, _, _, _, _, _, _, _, _, _, _, _, _, _, _, _, _, _, _, _, _, _, _, _, _, _, _, _, _, _, _, _, _, _, _, _, _, _, _, _, _, _, _, _, _]⟩ [box _ _ [_, _], box _ _ [_, _]] [_, _, _, _, _, _] rfl rfl rfl ?_
      refine JC_seq ?_
      refine JC_seq ?_
      refine JC_region ?_
      refine JL_move rfl ?_
      refine JL_fieldAddr fo41_0 rfl ?_
      refine JL_load 0 ty39 rfl rfl rfl ?_
      refine JL_len sl39 rfl ?_
      refine JL_lss rfl rfl ?_
      refine JL_split (fun h22 => ?_) (fun h22 => ?_)
      · refine JL_done_up 49 [box _ _ [_, _], box _ _ [_, _]] [_, _, _, _, _, _] rfl rfl (by simp only [nrmF]; rfl) rfl rfl ?_
        refine JC_true rfl ?_
        refine JC_skip ?_
        refine JE_then ?_
        refine JC_seq ?_
        refine JC_block ?_
        refine JC_seq ?_
        rcases hB : fndB F (E.getD i dP).1 with _ | _
        · refine JC_drawT mixed 12 [spV 26 [] _, spV 27 [] _, spV 28 [1] _, spV 29 [] _, spV 30 [2, 3] _, spV 31 [4] _, spV 32 [5] _, spC 33 [0, 6] _, spC 25 [7] _, spC 34 [8] (fun v φo => v = .int .i64 (0) ∧ φo = []), spC 35 [8] (fun v φo => v = .int .i64 (7) ∧ φo = []), spC 8 [9] _] ⟨OblS_V (fun vals ex ψ => (by
              refine JL_normQ ⟨49, [(26, _), (27, _), (28, _), (29, _), (30, _), (31, _), (32, _), (33, _), (25, _), (34, _), (35, _), (8, _)], _⟩ (_ :: _ :: _ :: _ :: _ :: _ :: ψ) rfl rfl ?_
              refine JL_loadA (vs := [_, _]) 1 ty41 rfl rfl ⟨rfl, rfl, trivial⟩ ?_
              exact JL_nil (JE_stepV rfl ss0))), OblS_V (fun vals ex ψ => (by
              refine JL_normQ ⟨49, [(26, _), (27, _), (28, _), (29, _), (30, _), (31, _), (32, _), (33, _), (25, _), (34, _), (35, _), (8, _)], _⟩ (_ :: _ :: _ :: _ :: _ :: _ :: ψ) rfl rfl ?_
              refine JL_fieldAddr fo41_0 rfl ?_
              exact JL_nil (JE_stepV rfl ss0))), OblS_V (fun vals ex ψ => (by
              refine JL_normQ ⟨49, [(26, _), (27, _), (28, _), (29, _), (30, _), (31, _), (32, _), (33, _), (25, _), (34, _), (35, _), (8, _)], _⟩ (_ :: _ :: _ :: _ :: _ :: _ :: ψ) rfl rfl ?_
              refine JL_load 0 ty39 rfl rfl rfl ?_
              exact JL_nil (JE_stepV rfl ss0))), OblS_V (fun vals ex ψ => (by
              refine JL_normQ ⟨49, [(26, _), (27, _), (28, _), (29, _), (30, _), (31, _), (32, _), (33, _), (25, _), (34, _), (35, _), (8, _)], _⟩ (_ :: _ :: _ :: _ :: _ :: _ :: ψ) rfl rfl ?_
              refine JL_move rfl ?_
              exact JL_nil (JE_stepV rfl ss0))), OblS_V (fun vals ex ψ => (by
              refine JL_normQ ⟨49, [(26, _), (27, _), (28, _), (29, _), (30, _), (31, _), (32, _), (33, _), (25, _), (34, _), (35, _), (8, _)], _⟩ (_ :: _ :: _ :: _ :: _ :: _ :: ψ) rfl rfl ?_
              refine JL_indexAddr i sl39 rfl rfl rfl (by omega) (by first | exact Reads.view (by repeat (first | with_reducible exact mm0 | refine mmS ?_))) (by rw [pcells_length]; omega) ?_
              exact JL_nil (JE_stepV rfl ss0))), OblS_V (fun vals ex ψ => (by
              refine JL_normQ ⟨49, [(26, _), (27, _), (28, _), (29, _), (30, _), (31, _), (32, _), (33, _), (25, _), (34, _), (35, _), (8, _)], _⟩ (_ :: _ :: _ :: _ :: _ :: _ :: ψ) rfl rfl ?_
              refine JL_fieldAddrE fo48_0 rfl (by first | exact Reads.view (by repeat (first | with_reducible exact mm0 | refine mmS ?_))) (by rw [pcells_length]; omega) ?_
              exact JL_nil (JE_stepV rfl ss0))), OblS_V (fun vals ex ψ => (by
              refine JL_normQ ⟨49, [(26, _), (27, _), (28, _), (29, _), (30, _), (31, _), (32, _), (33, _), (25, _), (34, _), (35, _), (8, _)], _⟩ (_ :: _ :: _ :: _ :: _ :: _ :: ψ) rfl rfl ?_
              refine JL_loadE ty3 rfl (by first | exact Reads.view (by repeat (first | with_reducible exact mm0 | refine mmS ?_))) (pcells_one (l := E) (by omega)).1 ?_
              exact JL_nil (JE_stepV rfl ss0))), OblS_C (fun vals ex ψ => (by
              refine JL_normQ ⟨49, [(26, _), (27, _), (28, _), (29, _), (30, _), (31, _), (32, _), (33, _), (25, _), (34, _), (35, _), (8, _)], _⟩ (_ :: _ :: _ :: _ :: _ :: _ :: ψ) rfl rfl ?_
              refine JL_callF' (Asks.cons (holds_of_mem (by repeat (first | with_reducible exact mm0 | refine mmS ?_))) (Asks.cons (holds_of_mem (by repeat (first | with_reducible exact mm0 | refine mmS ?_))) Asks.nil)) (rnumF_con (E := F) (R := S) (k := (E.getD i dP).1) (by omega) h15 hB) rfl ca35 ⟨rfl, rfl, rfl⟩ ?_
              exact fun v φo hP => JL_nil (JE_stepC φo rfl hP (fun p hp => mapB_l hp) (fun p hp => mapB_r (ss0 p hp))))), OblS_C (fun vals ex ψ => (by
              refine JL_normQ ⟨49, [(26, _), (27, _), (28, _), (29, _), (30, _), (31, _), (32, _), (33, _), (25, _), (34, _), (35, _), (8, _)], _⟩ (_ :: _ :: _ :: _ :: _ :: _ :: _ :: ψ) rfl rfl ?_
              generalize vals 7 = x33
              refine JL_usePost mm0 (fun φo hP => ?_)
              refine JL_move rfl ?_
              exact JL_nil (JE_stepC φo rfl hP (fun p hp => List.mem_append_left _ (List.mem_map.2 ⟨p, hp, rfl⟩)) (fun p hp => List.mem_append_right _ hp)))), OblS_C (fun vals ex ψ => (by
              refine JL_normQ ⟨49, [(26, _), (27, _), (28, _), (29, _), (30, _), (31, _), (32, _), (33, _), (25, _), (34, _), (35, _), (8, _)], _⟩ (_ :: _ :: _ :: _ :: _ :: _ :: _ :: ψ) rfl rfl ?_
              generalize vals 8 = x25
              refine JL_usePost mm0 (fun φo hP => ?_)
              obtain ⟨rfl, rfl⟩ := hP
              refine JL_norm _ _ (_ :: _ :: _ :: _ :: _ :: _ :: _ :: ψ) rfl rfl rfl ?_
              refine JL_extract rfl rfl ?_
              exact JL_nil (JE_stepC [] rfl ⟨rfl, rfl⟩ all_nil ss0))), OblS_C (fun vals ex ψ => (by
              refine JL_normQ ⟨49, [(26, _), (27, _), (28, _), (29, _), (30, _), (31, _), (32, _), (33, _), (25, _), (34, _), (35, _), (8, _)], _⟩ (_ :: _ :: _ :: _ :: _ :: _ :: _ :: ψ) rfl rfl ?_
              generalize vals 8 = x25
              refine JL_usePost mm0 (fun φo hP => ?_)
              obtain ⟨rfl, rfl⟩ := hP
              refine JL_norm _ _ (_ :: _ :: _ :: _ :: _ :: _ :: _ :: ψ) rfl rfl rfl ?_
              refine JL_extract rfl rfl ?_
              exact JL_nil (JE_stepC [] rfl ⟨rfl, rfl⟩ all_nil ss0))), OblS_C (fun vals ex ψ => (by
              refine JL_normQ ⟨49, [(26, _), (27, _), (28, _), (29, _), (30, _), (31, _), (32, _), (33, _), (25, _), (34, _), (35, _), (8, _)], _⟩ (_ :: _ :: _ :: _ :: _ :: _ :: _ :: ψ) rfl rfl ?_
              generalize vals 9 = x34
              refine JL_usePost mm0 (fun φo hP => ?_)
              refine JL_assign rfl ?_
              exact JL_nil (JE_stepC φo rfl hP (fun p hp => List.mem_append_left _ (List.mem_map.2 ⟨p, hp, rfl⟩)) (fun p hp => List.mem_append_right _ hp)))), trivial⟩ (by kernel_rfl) (fun vals bs => ?_)
          refine JL_normL [_] ⟨49, [(26, _), (27, _), (28, _), (29, _), (30, _), (31, _), (32, _), (33, _), (25, _), (34, _), (35, _), (8, _)], _⟩ [box _ _ [_, _], box _ _ [_, _]] [_, _, _, _, _, _, _, _, _, _, _] rfl rfl rfl rfl ?_
          generalize vals (0 + 1 + 1 + 1 + 1 + 1 + 1 + 1) = x33
          generalize vals (0 + 1 + 1 + 1 + 1 + 1 + 1 + 1 + 1) = x25
          generalize vals (0 + 1 + 1 + 1 + 1 + 1 + 1 + 1 + 1 + 1) = x34
          generalize vals (0 + 1 + 1 + 1 + 1 + 1 + 1 + 1 + 1 + 1 + 1) = x35
          generalize vals (0 + 1 + 1 + 1 + 1 + 1 + 1 + 1 + 1 + 1 + 1 + 1) = x8
          refine JL_usePost (mmS (mmS (mmS mm0))) (fun φo hP => ?_)
          obtain ⟨rfl, rfl⟩ := hP
          refine JL_norm _ [box _ _ [_, _], box _ _ [_, _]] [_, _, _, _, _, _, _, _, _, _, _] rfl rfl rfl ?_
          refine JL_usePost (mmS (mmS (mmS (mmS mm0)))) (fun φo hP => ?_)
          obtain ⟨rfl, rfl⟩ := hP
          refine JL_norm _ [box _ _ [_, _], box _ _ [_, _]] [_, _, _, _, _, _, _, _, _, _, _] rfl rfl rfl ?_
          refine JL_assign rfl ?_
          refine JL_done_up 49 [box _ _ [_, _], box _ _ [_, _]] [_, _, _, _, _, _, _, _, _, _, _] rfl rfl (by simp only [nrmF]; rfl) rfl rfl ?_
          refine JC_seq ?_
          refine JC_region ?_
          refine JL_move rfl ?_
          refine JL_eql rfl rfl ?_
          rw [decide_eq_false (p := (7 : Int) = 0) (by decide)]
          refine JL_done_up 49 [box _ _ [_, _], box _ _ [_, _]] [_, _, _, _, _, _, _, _, _, _, _] rfl rfl (by simp only [nrmF]; rfl) rfl rfl ?_
          refine JC_false rfl ?_
          refine JC_skip ?_
          refine JE_block_normal ?_
          refine JE_then ?_
          refine JC_region ?_
          refine JL_move rfl ?_
          refine JL_add_to rfl rfl (IntWalk.i64_in _ (by omega)) ?_
          refine JL_assign rfl ?_
          refine JL_nil_up 49 [box _ _ [_, _], box _ _ [_, _]] [_, _, _, _, _, _, _, _, _, _, _] rfl rfl (by simp only [nrmF]; rfl) rfl rfl ?_
          refine JE_nextS (i + 1, r, ad5, cap5) (by kernel_rfl) ?_ ?_ (by kernel_rfl) ?_
          · exact ⟨by omega, by rw [ofL, if_neg (by rw [hB]; decide), hr], by omega, hcp.1, hcp.2⟩
          · first | omega | (dsimp only; omega)
          · exact subset_app (subset_cons (by repeat (first | with_reducible exact mm0 | refine mmS ?_)) subset_nil) (ssS (ssS (ssS (ssS (ssS (ssS ss0))))))
        · refine JC_drawT mixed 12 [spV 26 [] _, spV 27 [] _, spV 28 [1] _, spV 29 [] _, spV 30 [2, 3] _, spV 31 [4] _, spV 32 [5] _, spC 33 [0, 6] _, spC 25 [7] _, spC 34 [8] (fun v φo => v = .int .i64 (fndV F (E.getD i dP).1) ∧ φo = []), spC 35 [8] (fun v φo => v = .int .i64 (0) ∧ φo = []), spC 8 [9] _] ⟨OblS_V (fun vals ex ψ => (by
              refine JL_normQ ⟨49, [(26, _), (27, _), (28, _), (29, _), (30, _), (31, _), (32, _), (33, _), (25, _), (34, _), (35, _), (8, _)], _⟩ (_ :: _ :: _ :: _ :: _ :: _ :: ψ) rfl rfl ?_
              refine JL_loadA (vs := [_, _]) 1 ty41 rfl rfl ⟨rfl, rfl, trivial⟩ ?_
              exact JL_nil (JE_stepV rfl ss0))), OblS_V (fun vals ex ψ => (by
              refine JL_normQ ⟨49, [(26, _), (27, _), (28, _), (29, _), (30, _), (31, _), (32, _), (33, _), (25, _), (34, _), (35, _), (8, _)], _⟩ (_ :: _ :: _ :: _ :: _ :: _ :: ψ) rfl rfl ?_
              refine JL_fieldAddr fo41_0 rfl ?_
              exact JL_nil (JE_stepV rfl ss0))), OblS_V (fun vals ex ψ => (by
              refine JL_normQ ⟨49, [(26, _), (27, _), (28, _), (29, _), (30, _), (31, _), (32, _), (33, _), (25, _), (34, _), (35, _), (8, _)], _⟩ (_ :: _ :: _ :: _ :: _ :: _ :: ψ) rfl rfl ?_
              refine JL_load 0 ty39 rfl rfl rfl ?_
              exact JL_nil (JE_stepV rfl ss0))), OblS_V (fun vals ex ψ => (by
              refine JL_normQ ⟨49, [(26, _), (27, _), (28, _), (29, _), (30, _), (31, _), (32, _), (33, _), (25, _), (34, _), (35, _), (8, _)], _⟩ (_ :: _ :: _ :: _ :: _ :: _ :: ψ) rfl rfl ?_
              refine JL_move rfl ?_
              exact JL_nil (JE_stepV rfl ss0))), OblS_V (fun vals ex ψ => (by
              refine JL_normQ ⟨49, [(26, _), (27, _), (28, _), (29, _), (30, _), (31, _), (32, _), (33, _), (25, _), (34, _), (35, _), (8, _)], _⟩ (_ :: _ :: _ :: _ :: _ :: _ :: ψ) rfl rfl ?_
              refine JL_indexAddr i sl39 rfl rfl rfl (by omega) (by first | exact Reads.view (by repeat (first | with_reducible exact mm0 | refine mmS ?_))) (by rw [pcells_length]; omega) ?_
              exact JL_nil (JE_stepV rfl ss0))), OblS_V (fun vals ex ψ => (by
              refine JL_normQ ⟨49, [(26, _), (27, _), (28, _), (29, _), (30, _), (31, _), (32, _), (33, _), (25, _), (34, _), (35, _), (8, _)], _⟩ (_ :: _ :: _ :: _ :: _ :: _ :: ψ) rfl rfl ?_
              refine JL_fieldAddrE fo48_0 rfl (by first | exact Reads.view (by repeat (first | with_reducible exact mm0 | refine mmS ?_))) (by rw [pcells_length]; omega) ?_
              exact JL_nil (JE_stepV rfl ss0))), OblS_V (fun vals ex ψ => (by
              refine JL_normQ ⟨49, [(26, _), (27, _), (28, _), (29, _), (30, _), (31, _), (32, _), (33, _), (25, _), (34, _), (35, _), (8, _)], _⟩ (_ :: _ :: _ :: _ :: _ :: _ :: ψ) rfl rfl ?_
              refine JL_loadE ty3 rfl (by first | exact Reads.view (by repeat (first | with_reducible exact mm0 | refine mmS ?_))) (pcells_one (l := E) (by omega)).1 ?_
              exact JL_nil (JE_stepV rfl ss0))), OblS_C (fun vals ex ψ => (by
              refine JL_normQ ⟨49, [(26, _), (27, _), (28, _), (29, _), (30, _), (31, _), (32, _), (33, _), (25, _), (34, _), (35, _), (8, _)], _⟩ (_ :: _ :: _ :: _ :: _ :: _ :: ψ) rfl rfl ?_
              refine JL_callF' (Asks.cons (holds_of_mem (by repeat (first | with_reducible exact mm0 | refine mmS ?_))) (Asks.cons (holds_of_mem (by repeat (first | with_reducible exact mm0 | refine mmS ?_))) Asks.nil)) (rnumT_con (E := F) (R := S) (k := (E.getD i dP).1) (by omega) h15 hB) rfl ca35 ⟨rfl, rfl, rfl⟩ ?_
              exact fun v φo hP => JL_nil (JE_stepC φo rfl hP (fun p hp => mapB_l hp) (fun p hp => mapB_r (ss0 p hp))))), OblS_C (fun vals ex ψ => (by
              refine JL_normQ ⟨49, [(26, _), (27, _), (28, _), (29, _), (30, _), (31, _), (32, _), (33, _), (25, _), (34, _), (35, _), (8, _)], _⟩ (_ :: _ :: _ :: _ :: _ :: _ :: _ :: ψ) rfl rfl ?_
              generalize vals 7 = x33
              refine JL_usePost mm0 (fun φo hP => ?_)
              refine JL_move rfl ?_
              exact JL_nil (JE_stepC φo rfl hP (fun p hp => List.mem_append_left _ (List.mem_map.2 ⟨p, hp, rfl⟩)) (fun p hp => List.mem_append_right _ hp)))), OblS_C (fun vals ex ψ => (by
              refine JL_normQ ⟨49, [(26, _), (27, _), (28, _), (29, _), (30, _), (31, _), (32, _), (33, _), (25, _), (34, _), (35, _), (8, _)], _⟩ (_ :: _ :: _ :: _ :: _ :: _ :: _ :: ψ) rfl rfl ?_
              generalize vals 8 = x25
              refine JL_usePost mm0 (fun φo hP => ?_)
              obtain ⟨rfl, rfl⟩ := hP
              refine JL_norm _ _ (_ :: _ :: _ :: _ :: _ :: _ :: _ :: ψ) rfl rfl rfl ?_
              refine JL_extract rfl rfl ?_
              exact JL_nil (JE_stepC [] rfl ⟨rfl, rfl⟩ all_nil ss0))), OblS_C (fun vals ex ψ => (by
              refine JL_normQ ⟨49, [(26, _), (27, _), (28, _), (29, _), (30, _), (31, _), (32, _), (33, _), (25, _), (34, _), (35, _), (8, _)], _⟩ (_ :: _ :: _ :: _ :: _ :: _ :: _ :: ψ) rfl rfl ?_
              generalize vals 8 = x25
              refine JL_usePost mm0 (fun φo hP => ?_)
              obtain ⟨rfl, rfl⟩ := hP
              refine JL_norm _ _ (_ :: _ :: _ :: _ :: _ :: _ :: _ :: ψ) rfl rfl rfl ?_
              refine JL_extract rfl rfl ?_
              exact JL_nil (JE_stepC [] rfl ⟨rfl, rfl⟩ all_nil ss0))), OblS_C (fun vals ex ψ => (by
              refine JL_normQ ⟨49, [(26, _), (27, _), (28, _), (29, _), (30, _), (31, _), (32, _), (33, _), (25, _), (34, _), (35, _), (8, _)], _⟩ (_ :: _ :: _ :: _ :: _ :: _ :: _ :: ψ) rfl rfl ?_
              generalize vals 9 = x34
              refine JL_usePost mm0 (fun φo hP => ?_)
              refine JL_assign rfl ?_
              exact JL_nil (JE_stepC φo rfl hP (fun p hp => List.mem_append_left _ (List.mem_map.2 ⟨p, hp, rfl⟩)) (fun p hp => List.mem_append_right _ hp)))), trivial⟩ (by kernel_rfl) (fun vals bs => ?_)
          refine JL_normL [_] ⟨49, [(26, _), (27, _), (28, _), (29, _), (30, _), (31, _), (32, _), (33, _), (25, _), (34, _), (35, _), (8, _)], _⟩ [box _ _ [_, _], box _ _ [_, _]] [_, _, _, _, _, _, _, _, _, _, _] rfl rfl rfl rfl ?_
          generalize vals (0 + 1 + 1 + 1 + 1 + 1 + 1 + 1) = x33
          generalize vals (0 + 1 + 1 + 1 + 1 + 1 + 1 + 1 + 1) = x25
          generalize vals (0 + 1 + 1 + 1 + 1 + 1 + 1 + 1 + 1 + 1) = x34
          generalize vals (0 + 1 + 1 + 1 + 1 + 1 + 1 + 1 + 1 + 1 + 1) = x35
          generalize vals (0 + 1 + 1 + 1 + 1 + 1 + 1 + 1 + 1 + 1 + 1 + 1) = x8
          refine JL_usePost (mmS (mmS (mmS mm0))) (fun φo hP => ?_)
          obtain ⟨rfl, rfl⟩ := hP
          refine JL_norm _ [box _ _ [_, _], box _ _ [_, _]] [_, _, _, _, _, _, _, _, _, _, _] rfl rfl rfl ?_
          refine JL_usePost (mmS (mmS (mmS (mmS mm0)))) (fun φo hP => ?_)
          obtain ⟨rfl, rfl⟩ := hP
          refine JL_norm _ [box _ _ [_, _], box _ _ [_, _]] [_, _, _, _, _, _, _, _, _, _, _] rfl rfl rfl ?_
          refine JL_assign rfl ?_
          refine JL_done_up 49 [box _ _ [_, _], box _ _ [_, _]] [_, _, _, _, _, _, _, _, _, _, _] rfl rfl (by simp only [nrmF]; rfl) rfl rfl ?_
          refine JC_seq ?_
          refine JC_region ?_
          refine JL_move rfl ?_
          refine JL_eql rfl rfl ?_
          rw [decide_eq_true (p := (0 : Int) = 0) rfl]
          refine JL_done_up 49 [box _ _ [_, _], box _ _ [_, _]] [_, _, _, _, _, _, _, _, _, _, _] rfl rfl (by simp only [nrmF]; rfl) rfl rfl ?_
          refine JC_true rfl ?_
          refine JC_region ?_
          refine JL_move rfl ?_
          refine JL_fieldAddr fo41_0 rfl ?_
          refine JL_load 0 ty39 rfl rfl rfl ?_
          refine JL_move rfl ?_
          refine JL_indexAddr i sl39 rfl rfl rfl (by omega) (by first | exact Reads.view (by repeat (first | with_reducible exact mm0 | refine mmS ?_))) (by rw [pcells_length]; omega) ?_
          refine JL_fieldAddrE fo48_1 rfl (by first | exact Reads.view (by repeat (first | with_reducible exact mm0 | refine mmS ?_))) (by rw [pcells_length]; omega) ?_
          refine JL_loadE ty3 rfl (by first | exact Reads.view (by repeat (first | with_reducible exact mm0 | refine mmS ?_))) (pcells_one (l := E) (by omega)).2 ?_
          refine JL_move rfl ?_
          refine JL_build (cs := [_, _]) [(0, [_]), (1, [_])] st51 ⟨⟨rfl, _, rfl, rfl⟩, ⟨rfl, _, rfl, rfl⟩, rfl⟩ rfl ?_
          refine JL_callA' true (AsksA.cons (holdsA_of_mem (by repeat (first | with_reducible exact mm0 | refine mmS ?_))) AsksA.nil) (ins_con (l := r) (p := ((E.getD i dP).2, fndV F (E.getD i dP).1)) (by omega) hcp) rfl ca37 ⟨rfl, rfl, rfl⟩ ?_
          rintro _ _ ⟨ad47, c47, rfl, hc47, rfl⟩
          refine JL_assign rfl ?_
          refine JL_nil_up 49 [box _ _ [_, _], box _ _ [_, _]] [_, _, _, _, _, _, _, _, _, _, _, _] rfl rfl (by simp only [nrmF]; rfl) rfl rfl ?_
          refine JE_block_normal ?_
          refine JE_then ?_
          refine JC_region ?_
          refine JL_move rfl ?_
          refine JL_add_to rfl rfl (IntWalk.i64_in _ (by omega)) ?_
          refine JL_assign rfl ?_
          refine JL_nil_up 49 [box _ _ [_, _], box _ _ [_, _]] [_, _, _, _, _, _, _, _, _, _, _, _] rfl rfl (by simp only [nrmF]; rfl) rfl rfl ?_
          refine JE_nextS (i + 1, insP r ((E.getD i dP).2, fndV F (E.getD i dP).1), ad47, c47) (by kernel_rfl) ?_ ?_ (by kernel_rfl) ?_
          · exact ⟨by omega, by rw [ofL, if_pos hB, srt_snoc, hr], by have := (insP_len (p := ((E.getD i dP).2, fndV F (E.getD i dP).1)) (l := r)).2; omega, hc47.1, hc47.2⟩
          · first | omega | (dsimp only; omega)
          · exact subset_app (subset_cons (by repeat (first | with_reducible exact mm0 | refine mmS ?_)) subset_nil) (ssS (ssS (ssS (ssS (ssS (ssS (ssS ss0)))))))
      · refine JL_done_up 49 [box _ _ [_, _], box _ _ [_, _]] [_, _, _, _, _, _] rfl rfl (by simp only [nrmF]; rfl) rfl rfl ?_
        refine JC_false rfl ?_
        refine JC_exit ?_
        refine JE_then_exit ?_
        refine JE_nextS_exit ?_
        refine JE_block_exit ?_
        refine JE_then ?_
        refine JC_seq ?_
        refine JC_region ?_
        refine JL_move rfl ?_
        refine JL_assign rfl ?_
        refine JL_assign rfl ?_
        refine JL_done_up 49 [box _ _ [_, _], box _ _ [_, _]] [_, _, _, _, _, _] rfl rfl (by simp only [nrmF]; rfl) rfl rfl ?_
        refine JC_ret ?_
        refine JE_ret (vs := [_, _]) [vCells ad5 (pcells r)] Try.results32 ⟨rfl, rfl, rfl⟩ ?_ ?_
        · rw [show r = ofR E R F S from hr.symm.trans (of_ref ⟨h11, h15⟩ (by omega)), (of_ok (show edC E R ∧ edC F S from ⟨h11, h15⟩)).2] at *; exact ⟨ad5, cap5, rfl, hcp, rfl⟩
        · exact (all_cons (by repeat (first | with_reducible exact mm0 | refine mmS ?_)) all_nil)
    · refine JL_guard_yes rfl rfl ?_
      refine JL_not rfl ?_
      rw [Bool.not_false]
      refine JL_pick_f rfl rfl ?_
      refine JL_done_up 49 [box _ _ [_, _], box _ _ [_, _]] [_, _, _, _] rfl rfl (by simp only [nrmF]; rfl) rfl rfl ?_
      refine JC_true rfl ?_
      refine JC_seq ?_
      refine JC_region ?_
      refine JL_assign rfl ?_
      refine JL_assign rfl ?_
      refine JL_done_up 49 [box _ _ [_, _], box _ _ [_, _]] [_, _, _, _] rfl rfl (by simp only [nrmF]; rfl) rfl rfl ?_
      refine JC_ret ?_
      refine JE_then_ret ?_
      refine JE_addView (f := true) (p := vCells none (pcells [])) (fun _ _ => nilP) ?_
      refine JE_ret (vs := [_, _]) [vCells none (pcells [])] Try.results32 ⟨rfl, rfl, rfl⟩ ?_ ?_
      · rw [(of_no (fun h : edC E R ∧ edC F S => h15 h.2)).1, (of_no (fun h : edC E R ∧ edC F S => h15 h.2)).2]; exact ⟨none, 0, rfl, caps0, rfl⟩
      · exact (all_cons (by repeat (first | with_reducible exact mm0 | refine mmS ?_)) all_nil)
  · refine JL_not rfl ?_
    rw [Bool.not_false]
    refine JL_move rfl ?_
    refine JL_guard_no rfl rfl ?_
    refine JL_guard_no rfl rfl ?_
    refine JL_guard_no rfl rfl ?_
    refine JL_pick_t rfl rfl ?_
    refine JL_done_up 49 [box _ _ [_, _], box _ _ [_, _]] [_, _, _, _] rfl rfl (by simp only [nrmF]; rfl) rfl rfl ?_
    refine JC_true rfl ?_
    refine JC_seq ?_
    refine JC_region ?_
    refine JL_assign rfl ?_
    refine JL_assign rfl ?_
    refine JL_done_up 49 [box _ _ [_, _], box _ _ [_, _]] [_, _, _, _] rfl rfl (by simp only [nrmF]; rfl) rfl rfl ?_
    refine JC_ret ?_
    refine JE_then_ret ?_
    refine JE_addView (f := true) (p := vCells none (pcells [])) (fun _ _ => nilP) ?_
    refine JE_ret (vs := [_, _]) [vCells none (pcells [])] Try.results32 ⟨rfl, rfl, rfl⟩ ?_ ?_
    · rw [(of_no (fun h : edC E R ∧ edC F S => h11 h.1)).1, (of_no (fun h : edC E R ∧ edC F S => h11 h.1)).2]; exact ⟨none, 0, rfl, caps0, rfl⟩
    · exact (all_cons (by repeat (first | with_reducible exact mm0 | refine mmS ?_)) all_nil)

set_option maxHeartbeats 2000000 in
theorem within_con {ad1 ad2 : Option Addr} {c1 c2 : Nat} {l m : List Pr} (hln : l.length ≤ 1000000) (hmn : m.length ≤ 1000000) :
    ConF Try.prog 34 [.slice ad1 l.length c1, .slice ad2 m.length c2] [vCells ad1 (pcells l), vCells ad2 (pcells m)]
      (fun v φo => v = .bool (decide (∀ x ∈ l, x ∈ m)) ∧ φo = []) := by
  refine ConF_of Try.func34 rfl 34 _ rfl rfl ?_
  intro w0
  refine JC_norm ⟨34, [], [_, _, _, _, _, _, _, _, _, _, _, _, _, _, _, _, _, _, _, _, _, _, _, _, _, _, _, _, _, _, _, _, _, _]⟩ [] [_, _] rfl rfl rfl ?_
  refine JC_seq ?_
  refine JC_region ?_
  refine JL_assign rfl ?_
  refine JL_done_up 34 [] [_, _] rfl rfl (by simp only [nrmF]; rfl) rfl rfl ?_
  refine JC_seq ?_
  refine JC_seq ?_
  refine JC_region ?_
  refine JL_assign rfl ?_
  refine JL_done_up 34 [] [_, _] rfl rfl (by simp only [nrmF]; rfl) rfl rfl ?_
  refine JC_block ?_
  refine JC_loopS ((Nat)) (fun (i : Nat) => i ≤ l.length ∧ ∀ j, j < i → l.getD j dP ∈ m) (fun (i : Nat) => l.length - i) (fun u (i : Nat) => [none, none, none, none, some (u 4), some (.int .i64 (i : Nat)), some (u 6), some (u 7), some (u 8), some (u 9), some (u 10), some (u 11), some (u 12), some (u 13), some (u 14), some (u 15), some (u 16), some (u 17), some (u 18), some (u 19), some (u 20), some (u 21), some (u 22), some (u 23), some (u 24), some (u 25), some (u 26), some (u 27), some (u 28), some (u 29), some (u 30), some (u 31), some (u 32), some (u 33)]) (fun (i : Nat) => []) (fun (i : Nat) => []) (0) (by kernel_rfl) ?_ (by kernel_rfl) ?_ ?_
  · exact ⟨Nat.zero_le _, fun j hj => absurd hj (Nat.not_lt_zero _)⟩
  · exact subset_nil
  intro u i hC
  obtain ⟨hi, hj⟩ := hC
  refine JC_norm ⟨34, [], [_, _, _, _, _, _, _, _, _, _, _, _, _, _, _, _, _, _, _, _, _, _, _, _, _, _, _, _, _, _, _, _, _, _]⟩ [] [_, _] rfl rfl rfl ?_
  refine JC_seq ?_
  refine JC_seq ?_
  refine JC_region ?_
  refine JL_move rfl ?_
  refine JL_move rfl ?_
  refine JL_len sl22 rfl ?_
  refine JL_lss rfl rfl ?_
  refine JL_split (fun h11 => ?_) (fun h11 => ?_)
  · refine JL_done_up 34 [] [_, _] rfl rfl (by simp only [nrmF]; rfl) rfl rfl ?_
    refine JC_true rfl ?_
    refine JC_skip ?_
    refine JE_then ?_
    refine JC_seq ?_
    refine JC_block ?_
    refine JC_seq ?_
    refine JC_region ?_
    refine JL_assign rfl ?_
    refine JL_done_up 34 [] [_, _] rfl rfl (by simp only [nrmF]; rfl) rfl rfl ?_
    refine JC_seq ?_
    refine JC_seq ?_
    refine JC_region ?_
    refine JL_assign rfl ?_
    refine JL_done_up 34 [] [_, _] rfl rfl (by simp only [nrmF]; rfl) rfl rfl ?_
    refine JC_block ?_
    refine JC_loopS ((Nat) × (Bool)) (fun (k, b) => k ≤ m.length ∧ (b = true ↔ ∃ j, j < k ∧ l.getD i dP = m.getD j dP)) (fun (k, b) => m.length - k) (fun u (k, b) => [none, none, none, none, none, none, some (.bool b), some (.int .i64 (k : Nat)), none, none, none, none, none, none, some (u 14), some (u 15), some (u 16), some (u 17), some (u 18), some (u 19), some (u 20), some (u 21), some (u 22), some (u 23), some (u 24), some (u 25), some (u 26), some (u 27), some (u 28), some (u 29), some (u 30), some (u 31), none, none]) (fun (k, b) => []) (fun (k, b) => []) (0, false) (by kernel_rfl) ?_ (by kernel_rfl) ?_ ?_
    · exact ⟨Nat.zero_le _, by simp⟩
    · exact subset_nil
    intro u i hC
    obtain ⟨k, b⟩ := i
    obtain ⟨hk, hb⟩ := hC
    refine JC_norm ⟨34, [], [_, _, _, _, _, _, _, _, _, _, _, _, _, _, _, _, _, _, _, _, _, _, _, _, _, _, _, _, _, _, _, _, _, _]⟩ [] [_, _] rfl rfl rfl ?_
    refine JC_seq ?_
    refine JC_seq ?_
    refine JC_region ?_
    refine JL_move rfl ?_
    refine JL_move rfl ?_
    refine JL_len sl22 rfl ?_
    refine JL_lss rfl rfl ?_
    refine JL_split (fun h17 => ?_) (fun h17 => ?_)
    · refine JL_done_up 34 [] [_, _] rfl rfl (by simp only [nrmF]; rfl) rfl rfl ?_
      refine JC_true rfl ?_
      refine JC_skip ?_
      refine JE_then ?_
      refine JC_seq ?_
      refine JC_block ?_
      rcases b with _ | _
      · refine JC_drawT mixed 10 [spV 20 [] _, spV 21 [0] _, spV 22 [1] _, spV 23 [1] _, spV 24 [1, 2, 3] _, spV 25 [1, 4] _, spV 26 [1] _, spV 27 [1] _, spV 28 [1, 6, 7] _, spV 29 [1, 8] _] ⟨OblS_V (fun vals ex ψ => (by
            refine JL_normQ ⟨34, [(20, _), (21, _), (22, _), (23, _), (24, _), (25, _), (26, _), (27, _), (28, _), (29, _)], _⟩ (_ :: _ :: ψ) rfl rfl ?_
            refine JL_move rfl ?_
            exact JL_nil (JE_stepV rfl ss0))), OblS_V (fun vals ex ψ => (by
            refine JL_normQ ⟨34, [(20, _), (21, _), (22, _), (23, _), (24, _), (25, _), (26, _), (27, _), (28, _), (29, _)], _⟩ (_ :: _ :: ψ) rfl rfl ?_
            refine JL_move rfl ?_
            exact JL_nil (JE_stepV rfl ss0))), OblS_V (fun vals ex ψ => (by
            refine JL_normQ ⟨34, [(20, _), (21, _), (22, _), (23, _), (24, _), (25, _), (26, _), (27, _), (28, _), (29, _)], _⟩ (_ :: _ :: ψ) rfl rfl ?_
            refine JL_guard_yes rfl rfl ?_
            refine JL_move rfl ?_
            exact JL_nil (JE_stepV rfl ss0))), OblS_V (fun vals ex ψ => (by
            refine JL_normQ ⟨34, [(20, _), (21, _), (22, _), (23, _), (24, _), (25, _), (26, _), (27, _), (28, _), (29, _)], _⟩ (_ :: _ :: ψ) rfl rfl ?_
            refine JL_guard_yes rfl rfl ?_
            refine JL_move rfl ?_
            exact JL_nil (JE_stepV rfl ss0))), OblS_V (fun vals ex ψ => (by
            refine JL_normQ ⟨34, [(20, _), (21, _), (22, _), (23, _), (24, _), (25, _), (26, _), (27, _), (28, _), (29, _)], _⟩ (_ :: _ :: ψ) rfl rfl ?_
            refine JL_guard_yes rfl rfl ?_
            refine JL_indexAddr i sl22 rfl rfl rfl (by omega) (by first | exact Reads.view (by repeat (first | with_reducible exact mm0 | refine mmS ?_))) (by rw [pcells_length]; omega) ?_
            exact JL_nil (JE_stepV rfl ss0))), OblS_V (fun vals ex ψ => (by
            refine JL_normQ ⟨34, [(20, _), (21, _), (22, _), (23, _), (24, _), (25, _), (26, _), (27, _), (28, _), (29, _)], _⟩ (_ :: _ :: ψ) rfl rfl ?_
            refine JL_guard_yes rfl rfl ?_
            refine JL_loadEA (vs := [_, _]) ty51 (Nat.zero_lt_succ _) rfl (by first | exact Reads.view (by repeat (first | with_reducible exact mm0 | refine mmS ?_))) (pcells_getA (by omega)) ?_
            exact JL_nil (JE_stepV rfl ss0))), OblS_V (fun vals ex ψ => (by
            refine JL_normQ ⟨34, [(20, _), (21, _), (22, _), (23, _), (24, _), (25, _), (26, _), (27, _), (28, _), (29, _)], _⟩ (_ :: _ :: ψ) rfl rfl ?_
            refine JL_guard_yes rfl rfl ?_
            refine JL_move rfl ?_
            exact JL_nil (JE_stepV rfl ss0))), OblS_V (fun vals ex ψ => (by
            refine JL_normQ ⟨34, [(20, _), (21, _), (22, _), (23, _), (24, _), (25, _), (26, _), (27, _), (28, _), (29, _)], _⟩ (_ :: _ :: ψ) rfl rfl ?_
            refine JL_guard_yes rfl rfl ?_
            refine JL_move rfl ?_
            exact JL_nil (JE_stepV rfl ss0))), OblS_V (fun vals ex ψ => (by
            refine JL_normQ ⟨34, [(20, _), (21, _), (22, _), (23, _), (24, _), (25, _), (26, _), (27, _), (28, _), (29, _)], _⟩ (_ :: _ :: ψ) rfl rfl ?_
            refine JL_guard_yes rfl rfl ?_
            refine JL_indexAddr k sl22 rfl rfl rfl (by omega) (by first | exact Reads.view (by repeat (first | with_reducible exact mm0 | refine mmS ?_))) (by rw [pcells_length]; omega) ?_
            exact JL_nil (JE_stepV rfl ss0))), OblS_V (fun vals ex ψ => (by
            refine JL_normQ ⟨34, [(20, _), (21, _), (22, _), (23, _), (24, _), (25, _), (26, _), (27, _), (28, _), (29, _)], _⟩ (_ :: _ :: ψ) rfl rfl ?_
            refine JL_guard_yes rfl rfl ?_
            refine JL_loadEA (vs := [_, _]) ty51 (Nat.zero_lt_succ _) rfl (by first | exact Reads.view (by repeat (first | with_reducible exact mm0 | refine mmS ?_))) (pcells_getA (by omega)) ?_
            exact JL_nil (JE_stepV rfl ss0))), trivial⟩ (by kernel_rfl) (fun vals bs => ?_)
        refine JL_normL [_, _, _] ⟨34, [(20, _), (21, _), (22, _), (23, _), (24, _), (25, _), (26, _), (27, _), (28, _), (29, _)], _⟩ [] [_, _] rfl rfl rfl rfl ?_
        refine JL_guard_yes rfl rfl ?_
        refine JL_eqlP eqPair rfl rfl ?_
        refine JL_pick_f rfl rfl ?_
        refine JL_assign rfl ?_
        refine JL_nil_up 34 [] [_, _] rfl rfl (by simp only [nrmF]; rfl) rfl rfl ?_
        refine JE_block_normal ?_
        refine JE_then ?_
        refine JC_region ?_
        refine JL_move rfl ?_
        refine JL_add_to rfl rfl (IntWalk.i64_in _ (by omega)) ?_
        refine JL_assign rfl ?_
        refine JL_nil_up 34 [] [_, _] rfl rfl (by simp only [nrmF]; rfl) rfl rfl ?_
        refine JE_nextS (k + 1, decide (l.getD i dP = m.getD k dP)) (by kernel_rfl) ?_ ?_ (by kernel_rfl) ?_
        · exact ⟨by omega, withinF hb⟩
        · first | omega | (dsimp only; omega)
        · exact subset_app subset_nil ss0
      · refine JC_drawT mixed 10 [spV 20 [] _, spV 21 [0] _, spV 22 [1] _, spV 23 [1] _, spV 24 [1, 2, 3] _, spV 25 [1, 4] _, spV 26 [1] _, spV 27 [1] _, spV 28 [1, 6, 7] _, spV 29 [1, 8] _] ⟨OblS_V (fun vals ex ψ => (by
            refine JL_normQ ⟨34, [(20, _), (21, _), (22, _), (23, _), (24, _), (25, _), (26, _), (27, _), (28, _), (29, _)], _⟩ (_ :: _ :: ψ) rfl rfl ?_
            refine JL_move rfl ?_
            exact JL_nil (JE_stepV rfl ss0))), OblS_V (fun vals ex ψ => (by
            refine JL_normQ ⟨34, [(20, _), (21, _), (22, _), (23, _), (24, _), (25, _), (26, _), (27, _), (28, _), (29, _)], _⟩ (_ :: _ :: ψ) rfl rfl ?_
            refine JL_move rfl ?_
            exact JL_nil (JE_stepV rfl ss0))), OblS_V (fun vals ex ψ => (by
            refine JL_normQ ⟨34, [(20, _), (21, _), (22, _), (23, _), (24, _), (25, _), (26, _), (27, _), (28, _), (29, _)], _⟩ (_ :: _ :: ψ) rfl rfl ?_
            refine JL_guard_no rfl rfl ?_
            exact JL_nil (JE_stepV rfl ss0))), OblS_V (fun vals ex ψ => (by
            refine JL_normQ ⟨34, [(20, _), (21, _), (22, _), (23, _), (24, _), (25, _), (26, _), (27, _), (28, _), (29, _)], _⟩ (_ :: _ :: ψ) rfl rfl ?_
            refine JL_guard_no rfl rfl ?_
            exact JL_nil (JE_stepV rfl ss0))), OblS_V (fun vals ex ψ => (by
            refine JL_normQ ⟨34, [(20, _), (21, _), (22, _), (23, _), (24, _), (25, _), (26, _), (27, _), (28, _), (29, _)], _⟩ (_ :: _ :: ψ) rfl rfl ?_
            refine JL_guard_no rfl rfl ?_
            exact JL_nil (JE_stepV rfl ss0))), OblS_V (fun vals ex ψ => (by
            refine JL_normQ ⟨34, [(20, _), (21, _), (22, _), (23, _), (24, _), (25, _), (26, _), (27, _), (28, _), (29, _)], _⟩ (_ :: _ :: ψ) rfl rfl ?_
            refine JL_guard_no rfl rfl ?_
            exact JL_nil (JE_stepV rfl ss0))), OblS_V (fun vals ex ψ => (by
            refine JL_normQ ⟨34, [(20, _), (21, _), (22, _), (23, _), (24, _), (25, _), (26, _), (27, _), (28, _), (29, _)], _⟩ (_ :: _ :: ψ) rfl rfl ?_
            refine JL_guard_no rfl rfl ?_
            exact JL_nil (JE_stepV rfl ss0))), OblS_V (fun vals ex ψ => (by
            refine JL_normQ ⟨34, [(20, _), (21, _), (22, _), (23, _), (24, _), (25, _), (26, _), (27, _), (28, _), (29, _)], _⟩ (_ :: _ :: ψ) rfl rfl ?_
            refine JL_guard_no rfl rfl ?_
            exact JL_nil (JE_stepV rfl ss0))), OblS_V (fun vals ex ψ => (by
            refine JL_normQ ⟨34, [(20, _), (21, _), (22, _), (23, _), (24, _), (25, _), (26, _), (27, _), (28, _), (29, _)], _⟩ (_ :: _ :: ψ) rfl rfl ?_
            refine JL_guard_no rfl rfl ?_
            exact JL_nil (JE_stepV rfl ss0))), OblS_V (fun vals ex ψ => (by
            refine JL_normQ ⟨34, [(20, _), (21, _), (22, _), (23, _), (24, _), (25, _), (26, _), (27, _), (28, _), (29, _)], _⟩ (_ :: _ :: ψ) rfl rfl ?_
            refine JL_guard_no rfl rfl ?_
            exact JL_nil (JE_stepV rfl ss0))), trivial⟩ (by kernel_rfl) (fun vals bs => ?_)
        refine JL_normL [_, _, _] ⟨34, [(20, _), (21, _), (22, _), (23, _), (24, _), (25, _), (26, _), (27, _), (28, _), (29, _)], _⟩ [] [_, _] rfl rfl rfl rfl ?_
        refine JL_guard_no rfl rfl ?_
        refine JL_pick_t rfl rfl ?_
        refine JL_assign rfl ?_
        refine JL_nil_up 34 [] [_, _] rfl rfl (by simp only [nrmF]; rfl) rfl rfl ?_
        refine JE_block_normal ?_
        refine JE_then ?_
        refine JC_region ?_
        refine JL_move rfl ?_
        refine JL_add_to rfl rfl (IntWalk.i64_in _ (by omega)) ?_
        refine JL_assign rfl ?_
        refine JL_nil_up 34 [] [_, _] rfl rfl (by simp only [nrmF]; rfl) rfl rfl ?_
        refine JE_nextS (k + 1, true) (by kernel_rfl) ?_ ?_ (by kernel_rfl) ?_
        · exact ⟨by omega, withinT hb⟩
        · first | omega | (dsimp only; omega)
        · exact subset_app subset_nil ss0
    · refine JL_done_up 34 [] [_, _] rfl rfl (by simp only [nrmF]; rfl) rfl rfl ?_
      refine JC_false rfl ?_
      refine JC_exit ?_
      refine JE_then_exit ?_
      refine JE_nextS_exit ?_
      refine JE_block_exit ?_
      refine JE_then ?_
      refine JC_seq ?_
      rcases b with _ | _
      · refine JC_region ?_
        refine JL_move rfl ?_
        refine JL_not rfl ?_
        refine JL_done_up 34 [] [_, _] rfl rfl (by simp only [nrmF]; rfl) rfl rfl ?_
        refine JC_true rfl ?_
        refine JC_seq ?_
        refine JC_region ?_
        refine JL_assign rfl ?_
        refine JL_done_up 34 [] [_, _] rfl rfl (by simp only [nrmF]; rfl) rfl rfl ?_
        refine JC_ret ?_
        refine JE_block_ret ?_
        refine JE_then_ret ?_
        refine JE_nextS_ret ?_
        refine JE_block_ret ?_
        refine JE_then_ret ?_
        refine JE_ret (vs := [_]) [] Try.results34 ⟨rfl, rfl⟩ ?_ ?_
        · rw [decide_eq_false (p := ∀ x ∈ l, x ∈ m) (fun h => withinN hb (by omega) (h _ (getD_mem2 (by omega))))]; exact ⟨rfl, rfl⟩
        · exact all_nil
      · have hmem : l.getD i dP ∈ m := withinM (hb.1 rfl) (by omega)
        refine JC_region ?_
        refine JL_move rfl ?_
        refine JL_not rfl ?_
        refine JL_done_up 34 [] [_, _] rfl rfl (by simp only [nrmF]; rfl) rfl rfl ?_
        refine JC_false rfl ?_
        refine JC_skip ?_
        refine JE_block_normal ?_
        refine JE_then ?_
        refine JC_region ?_
        refine JL_move rfl ?_
        refine JL_add_to rfl rfl (IntWalk.i64_in _ (by omega)) ?_
        refine JL_assign rfl ?_
        refine JL_nil_up 34 [] [_, _] rfl rfl (by simp only [nrmF]; rfl) rfl rfl ?_
        refine JE_nextS (i + 1) (by kernel_rfl) ?_ ?_ (by kernel_rfl) ?_
        · exact ⟨by omega, fun j hj2 => by
          by_cases h : j = i
          · subst h; exact hmem
          · exact hj j (by omega)⟩
        · first | omega | (dsimp only; omega)
        · exact subset_app subset_nil ss0
  · refine JL_done_up 34 [] [_, _] rfl rfl (by simp only [nrmF]; rfl) rfl rfl ?_
    refine JC_false rfl ?_
    refine JC_exit ?_
    refine JE_then_exit ?_
    refine JE_nextS_exit ?_
    refine JE_block_exit ?_
    refine JE_then ?_
    refine JC_seq ?_
    refine JC_region ?_
    refine JL_assign rfl ?_
    refine JL_done_up 34 [] [_, _] rfl rfl (by simp only [nrmF]; rfl) rfl rfl ?_
    refine JC_ret ?_
    refine JE_ret (vs := [_]) [] Try.results34 ⟨rfl, rfl⟩ ?_ ?_
    · rw [decide_eq_true (p := ∀ x ∈ l, x ∈ m) (fun x hx => withinA (fun j h => hj j (by omega)) x hx)]; exact ⟨rfl, rfl⟩
    · exact all_nil

end Go.Fw.K
