/- Walks through functions of the given program: each meets its contract. (Printed by a program of this repo.) -/
import Derived.Test.YthaepkealhkkmaaQ5
import Derived.Test.YthaepkealhkkmaaProg
namespace Go.Fw.Q6
open Go Go.RowKit Go.Proofs Go.Nat9 Go.Fw
attribute [local irreducible] JC JL JE
theorem ca24 : callable Try.prog 24 = true := by kernel_rfl
theorem ca25 : callable Try.prog 25 = true := by kernel_rfl
theorem ca36 : callable Try.prog 36 = true := by kernel_rfl
theorem ca37 : callable Try.prog 37 = true := by kernel_rfl
theorem fo51_0 : fOf Try.prog 51 0 = some 0 := by kernel_rfl
theorem fo51_1 : fOf Try.prog 51 1 = some 1 := by kernel_rfl
theorem mixed : Try.prog.follows .mixedOrders = true := by kernel_rfl
theorem sl22 : slOf Try.prog 22 = some (51, 2, 16, [.int .i64 0, .int .i64 0]) := by kernel_rfl
theorem st51 : stOf Try.prog 51 = some ([(0, 1), (1, 1)], [.int .i64 0, .int .i64 0]) := by kernel_rfl
theorem ty3 : tyOf Try.prog 3 = some (false, 1) := by kernel_rfl
theorem ty51 : tyOf Try.prog 51 = some (true, 2) := by kernel_rfl
theorem z51 : zeroOf Try.prog 51 = some [.int .i64 0, .int .i64 0] := by kernel_rfl
end Go.Fw.Q6
namespace Go.Fw.K
open Go Go.RowKit Go.Proofs Go.Nat9 Go.Fw Go.Fw.Q6
attribute [local irreducible] JC JL JE

set_option maxHeartbeats 1000000 in
theorem inv_con {ad : Option Addr} {c : Nat} {l : List Pr} (hln : l.length ≤ 1000000) :
    ConF Try.prog 12 [.slice ad l.length c] [vCells ad (pcells l)]
      (SPP (invR l) (valE l)) := by
  refine ConF_of Try.func12 rfl 29 _ rfl rfl ?_
  intro w0
  refine JC_norm ⟨29, [], [_, _, _, _, _, _, _, _, _, _, _, _, _, _, _, _, _, _, _, _, _, _, _, _, _, _, _, _, _]⟩ [] [_] rfl rfl rfl ?_
  refine JC_seq ?_
  refine JC_region ?_
  refine JL_assign rfl ?_
  refine JL_assign rfl ?_
  refine JL_done_up 29 [] [_] rfl rfl (by simp only [nrmF]; rfl) rfl rfl ?_
  refine JC_seq ?_
  refine JC_seq ?_
  refine JC_region ?_
  refine JL_move rfl ?_
  refine JL_callF' (Asks.cons (holds_of_mem (by repeat (first | with_reducible exact mm0 | refine mmS ?_))) Asks.nil) (valid_con (by omega)) rfl ca24 ⟨rfl, rfl⟩ ?_
  rintro _ _ ⟨rfl, rfl⟩
  refine JL_split (fun h8 => ?_) (fun h8 => ?_)
  · refine JL_not rfl ?_
    rw [Bool.not_true]
    refine JL_done_up 29 [] [_] rfl rfl (by simp only [nrmF]; rfl) rfl rfl ?_
    refine JC_false rfl ?_
    refine JC_skip ?_
    refine JE_then ?_
    refine JC_seq ?_
    refine JC_region ?_
    refine JL_assign rfl ?_
    refine JL_done_up 29 [] [_] rfl rfl (by simp only [nrmF]; rfl) rfl rfl ?_
    refine JC_seq ?_
    refine JC_seq ?_
    refine JC_region ?_
    refine JL_move rfl ?_
    refine JL_len sl22 rfl ?_
    refine JL_move rfl ?_
    refine JL_done_up 29 [] [_] rfl rfl (by simp only [nrmF]; rfl) rfl rfl ?_
    refine JC_block ?_
    refine JC_addNil 51 2 ?_
    refine JC_norm ⟨29, [], [_, _, _, _, _, _, _, _, _, _, _, _, _, _, _, _, _, _, _, _, _, _, _, _, _, _, _, _, _]⟩ [osl _ _ _ _ _ _] [_] rfl rfl rfl ?_
    refine JC_loopS ((Nat) × (List Pr) × (Option Addr) × (Nat) × (Nat)) (fun (i, r, ad2, cap2, n2) => i ≤ l.length ∧ invF l i = r ∧ r.length = n2 ∧ n2 = i) (fun (i, r, ad2, cap2, n2) => l.length - i) (fun u (i, r, ad2, cap2, n2) => [none, none, none, none, some (.slice ad2 n2 cap2), none, some (u 6), none, none, none, none, none, some (.int .i64 (i : Nat)), some (u 13), some (u 14), some (u 15), some (u 16), some (u 17), some (u 18), some (u 19), some (u 20), some (u 21), some (u 22), some (u 23), some (u 24), none, none, none, none]) (fun (i, r, ad2, cap2, n2) => [some (osl ad2 n2 cap2 51 2 (pcells r))]) (fun (i, r, ad2, cap2, n2) => []) (0, [], none, 0, 0) (by kernel_rfl) ?_ (by kernel_rfl) ?_ ?_
    · exact ⟨Nat.zero_le _, rfl, rfl, rfl⟩
    · exact subset_nil
    intro u i hC
    obtain ⟨i, r, ad2, cap2, n2⟩ := i
    obtain ⟨hi, hr, hn2, hni⟩ := hC
    refine JC_norm ⟨29, [], [_, _, _, _, _, _, _, _, _, _, _, _, _, _, _, _, _, _, _, _, _, _, _, _, _, _, _, _, _]⟩ [osl _ _ _ _ _ _] [_] rfl rfl rfl ?_
    refine JC_seq ?_
    refine JC_region ?_
    refine JL_lss rfl rfl ?_
    refine JL_split (fun h13 => ?_) (fun h13 => ?_)
    · refine JL_done_up 29 [osl _ _ _ _ _ _] [_] rfl rfl (by simp only [nrmF]; rfl) rfl rfl ?_
      refine JC_seq ?_
      refine JC_true rfl ?_
      refine JC_skip ?_
      refine JE_then ?_
      refine JC_seq ?_
      refine JC_block ?_
      refine JC_seq ?_
      refine JC_region ?_
      refine JL_indexAddr i sl22 rfl rfl rfl (by omega) (by first | exact Reads.view (by repeat (first | with_reducible exact mm0 | refine mmS ?_)) | (exact Reads.own 0 rfl)) (by rw [pcells_length]; omega) ?_
      refine JL_loadEA (vs := [_, _]) ty51 (Nat.zero_lt_succ _) rfl (by first | exact Reads.view (by repeat (first | with_reducible exact mm0 | refine mmS ?_)) | (exact Reads.own 0 rfl)) (pcells_getA (by omega)) ?_
      refine JL_alloc z51 (fun b6 => ?_)
      refine JL_store (vs := [_, _]) 1 ty51 rfl rfl rfl (AllOne.cons rfl (AllOne.cons rfl AllOne.nil)) rfl (Nat.le_of_ble_eq_true rfl) ?_
      refine JL_done_up 29 [osl _ _ _ _ _ _, box _ _ [_, _]] [_] rfl rfl (by simp only [nrmF]; rfl) rfl rfl ?_
      refine JC_region ?_
      refine JL_move rfl ?_
      refine JL_fieldAddr fo51_1 rfl ?_
      refine JL_load 1 ty3 rfl rfl rfl ?_
      refine JL_fieldAddr fo51_0 rfl ?_
      refine JL_load 1 ty3 rfl rfl rfl ?_
      refine JL_build (cs := [_, _]) [(0, [_]), (1, [_])] st51 ⟨⟨rfl, _, rfl, rfl⟩, ⟨rfl, _, rfl, rfl⟩, rfl⟩ rfl ?_
      refine JL_buildN (cs0 := [.int .i64 0, .int .i64 0]) (cs := [_, _]) [(0, [_, _])] sl22 (by kernel_rfl) ⟨⟨rfl, _, rfl, rfl⟩, rfl⟩ rfl rfl rfl rfl (fun g22 => ?_)
      refine JL_append (news := [_, _]) 0 sl22 rfl (by decide) rfl rfl rfl rfl (Reads.own 2 rfl) (AllOne.cons rfl (AllOne.cons rfl AllOne.nil)) (by omega) (by omega) (fun ad23 cap23 hc23 => ?_)
      refine JL_dropAt 2 ?_
      refine JL_norm _ [osl _ _ _ _ _ _, box _ _ [_, _]] [_] rfl rfl rfl ?_
      rw [show pcells r ++ pc ((l.getD i dP).2, (l.getD i dP).1) = pcells (r ++ [((l.getD i dP).2, (l.getD i dP).1)]) from pcells_snoc r _]
      refine JL_assign rfl ?_
      refine JL_nil_up 29 [osl _ _ _ _ _ _, box _ _ [_, _]] [_] rfl rfl (by simp only [nrmF]; rfl) rfl rfl ?_
      refine JE_block_normal ?_
      refine JE_then ?_
      refine JC_region ?_
      refine JL_add_to rfl rfl (IntWalk.i64_in _ (by omega)) ?_
      refine JL_move rfl ?_
      refine JL_nil_up 29 [osl _ _ _ _ _ _, box _ _ [_, _]] [_] rfl rfl (by simp only [nrmF]; rfl) rfl rfl ?_
      refine JE_dropAt 1 ?_
      refine JE_norm _ [osl _ _ _ _ _ _] [_] rfl rfl rfl ?_
      refine JE_nextS (i + 1, r ++ [((l.getD i dP).2, (l.getD i dP).1)], ad23, cap23, n2 + 1) (by kernel_rfl) ?_ ?_ (by kernel_rfl) ?_
      · exact ⟨by omega, by rw [invF, hr], by rw [List.length_append, hn2]; rfl, by omega⟩
      · first | omega | (dsimp only; omega)
      · exact subset_app subset_nil ss0
    · refine JL_done_up 29 [osl _ _ _ _ _ _] [_] rfl rfl (by simp only [nrmF]; rfl) rfl rfl ?_
      refine JC_seq ?_
      refine JC_false rfl ?_
      refine JC_exit ?_
      refine JE_then_exit ?_
      refine JE_nextS_exit ?_
      refine JE_block_exit ?_
      refine JE_then ?_
      refine JC_seq ?_
      have hie : i = l.length := by omega
      subst hn2
      rw [hie] at hr
      obtain ⟨hs1, hs2⟩ := inv_sort h8
      refine JC_region ?_
      refine JL_move rfl ?_
      refine JL_callO AsksO.nil (sorted_con (l := r) (by omega)) rfl ca36 ⟨rfl, rfl⟩ ?_
      rintro _ _ _ ⟨ad26, c26, rfl, hc26, rfl, rfl⟩
      rw [← hr, hs1, hs2]
      refine JL_extract rfl rfl ?_
      refine JL_extract rfl rfl ?_
      refine JL_assign rfl ?_
      refine JL_assign rfl ?_
      refine JL_done_up 29 [] [_, _] rfl rfl (by simp only [nrmF]; rfl) rfl rfl ?_
      refine JC_ret ?_
      refine JE_ret (vs := [_, _]) [vCells ad26 (pcells (invR l))] Try.results12 ⟨rfl, rfl, rfl⟩ ?_ ?_
      · rw [valE_ok h8]; exact ⟨ad26, c26, rfl, by rw [← hs1, hr]; exact hc26, rfl⟩
      · exact (all_cons (by repeat (first | with_reducible exact mm0 | refine mmS ?_)) all_nil)
  · refine JL_not rfl ?_
    rw [Bool.not_false]
    refine JL_done_up 29 [] [_] rfl rfl (by simp only [nrmF]; rfl) rfl rfl ?_
    refine JC_true rfl ?_
    refine JC_seq ?_
    refine JC_region ?_
    refine JL_assign rfl ?_
    refine JL_assign rfl ?_
    refine JL_done_up 29 [] [_] rfl rfl (by simp only [nrmF]; rfl) rfl rfl ?_
    refine JC_ret ?_
    refine JE_then_ret ?_
    refine JE_addView (f := true) (p := vCells none (pcells [])) (fun _ _ => nilP) ?_
    refine JE_ret (vs := [_, _]) [vCells none (pcells [])] Try.results12 ⟨rfl, rfl, rfl⟩ ?_ ?_
    · rw [invR_no h8, valE_no h8]; exact ⟨none, 0, rfl, caps0, rfl⟩
    · exact (all_cons (by repeat (first | with_reducible exact mm0 | refine mmS ?_)) all_nil)

set_option maxHeartbeats 1000000 in
theorem rinv_con {ad : Option Addr} {c : Nat} {l : List Pr} (hln : l.length ≤ 1000000) :
    ConF Try.prog 13 [.slice ad l.length c] [vCells ad (pcells l)]
      (SPP (invR l) (valE l)) := by
  refine ConF_of Try.func13 rfl 29 _ rfl rfl ?_
  intro w0
  refine JC_norm ⟨29, [], [_, _, _, _, _, _, _, _, _, _, _, _, _, _, _, _, _, _, _, _, _, _, _, _, _, _, _, _, _]⟩ [] [_] rfl rfl rfl ?_
  refine JC_seq ?_
  refine JC_region ?_
  refine JL_assign rfl ?_
  refine JL_assign rfl ?_
  refine JL_done_up 29 [] [_] rfl rfl (by simp only [nrmF]; rfl) rfl rfl ?_
  refine JC_seq ?_
  refine JC_seq ?_
  refine JC_region ?_
  refine JL_move rfl ?_
  refine JL_callF' (Asks.cons (holds_of_mem (by repeat (first | with_reducible exact mm0 | refine mmS ?_))) Asks.nil) (rvalid_con (by omega)) rfl ca25 ⟨rfl, rfl⟩ ?_
  rintro _ _ ⟨rfl, rfl⟩
  refine JL_split (fun h7 => ?_) (fun h7 => ?_)
  · refine JL_not rfl ?_
    rw [Bool.not_true]
    refine JL_done_up 29 [] [_] rfl rfl (by simp only [nrmF]; rfl) rfl rfl ?_
    refine JC_false rfl ?_
    refine JC_skip ?_
    refine JE_then ?_
    refine JC_seq ?_
    refine JC_region ?_
    refine JL_assign rfl ?_
    refine JL_done_up 29 [] [_] rfl rfl (by simp only [nrmF]; rfl) rfl rfl ?_
    refine JC_seq ?_
    refine JC_seq ?_
    refine JC_region ?_
    refine JL_assign rfl ?_
    refine JL_done_up 29 [] [_] rfl rfl (by simp only [nrmF]; rfl) rfl rfl ?_
    refine JC_block ?_
    refine JC_addView (f := true) (p := vCells none (pcells [])) (fun _ _ => nilP) ?_
    refine JC_loopS ((Nat) × (List Pr) × (Option Addr) × (Nat)) (fun (i, r, ad2, cap2) => i ≤ l.length ∧ srt (invF l i) = r ∧ r.length ≤ i ∧ r.length ≤ cap2 ∧ cap2 ≤ 9223372036854775807) (fun (i, r, ad2, cap2) => l.length - i) (fun u (i, r, ad2, cap2) => [none, none, none, none, some (.slice ad2 r.length cap2), some (.int .i64 (i : Nat)), none, none, none, some (u 9), some (u 10), some (u 11), some (u 12), some (u 13), some (u 14), some (u 15), some (u 16), some (u 17), some (u 18), some (u 19), some (u 20), some (u 21), some (u 22), some (u 23), some (u 24), some (u 25), some (u 26), some (u 27), none]) (fun (i, r, ad2, cap2) => []) (fun (i, r, ad2, cap2) => [(true, vCells ad2 (pcells r))]) (0, [], none, 0) (by kernel_rfl) ?_ (by kernel_rfl) ?_ ?_
    · exact ⟨Nat.zero_le _, rfl, Nat.le_refl _, Nat.le_refl _, Nat.zero_le _⟩
    · exact (subset_cons (by repeat (first | with_reducible exact mm0 | refine mmS ?_)) subset_nil)
    intro u i hC
    obtain ⟨i, r, ad2, cap2⟩ := i
    obtain ⟨hi, hr, hrn, hcp⟩ := hC
    refine JC_norm ⟨29, [], [_, _, _, _, _, _, _, _, _, _, _, _, _, _, _, _, _, _, _, _, _, _, _, _, _, _, _, _, _]⟩ [] [_, _, _] rfl rfl rfl ?_
    refine JC_seq ?_
    refine JC_seq ?_
    refine JC_region ?_
    refine JL_move rfl ?_
    refine JL_move rfl ?_
    refine JL_len sl22 rfl ?_
    refine JL_lss rfl rfl ?_
    refine JL_split (fun h12 => ?_) (fun h12 => ?_)
    · refine JL_done_up 29 [] [_, _, _] rfl rfl (by simp only [nrmF]; rfl) rfl rfl ?_
      refine JC_true rfl ?_
      refine JC_skip ?_
      refine JE_then ?_
      refine JC_seq ?_
      refine JC_block ?_
      refine JC_drawT mixed 12 [spV 15 [] _, spV 16 [] _, spV 17 [] _, spV 18 [1, 2] _, spV 19 [3] _, spV 20 [4] _, spV 21 [] _, spV 22 [] _, spV 23 [6, 7] _, spV 24 [8] _, spV 25 [9] _, spV 26 [5, 10] (pv ((l.getD i dP).2, (l.getD i dP).1))] ⟨OblS_V (fun vals ex ψ => (by
          refine JL_normQ ⟨29, [(15, _), (16, _), (17, _), (18, _), (19, _), (20, _), (21, _), (22, _), (23, _), (24, _), (25, _), (26, _)], _⟩ (_ :: _ :: _ :: ψ) rfl rfl ?_
          refine JL_move rfl ?_
          exact JL_nil (JE_stepV rfl ss0))), OblS_V (fun vals ex ψ => (by
          refine JL_normQ ⟨29, [(15, _), (16, _), (17, _), (18, _), (19, _), (20, _), (21, _), (22, _), (23, _), (24, _), (25, _), (26, _)], _⟩ (_ :: _ :: _ :: ψ) rfl rfl ?_
          refine JL_move rfl ?_
          exact JL_nil (JE_stepV rfl ss0))), OblS_V (fun vals ex ψ => (by
          refine JL_normQ ⟨29, [(15, _), (16, _), (17, _), (18, _), (19, _), (20, _), (21, _), (22, _), (23, _), (24, _), (25, _), (26, _)], _⟩ (_ :: _ :: _ :: ψ) rfl rfl ?_
          refine JL_move rfl ?_
          exact JL_nil (JE_stepV rfl ss0))), OblS_V (fun vals ex ψ => (by
          refine JL_normQ ⟨29, [(15, _), (16, _), (17, _), (18, _), (19, _), (20, _), (21, _), (22, _), (23, _), (24, _), (25, _), (26, _)], _⟩ (_ :: _ :: _ :: ψ) rfl rfl ?_
          refine JL_indexAddr i sl22 rfl rfl rfl (by omega) (by first | exact Reads.view (by repeat (first | with_reducible exact mm0 | refine mmS ?_))) (by rw [pcells_length]; omega) ?_
          exact JL_nil (JE_stepV rfl ss0))), OblS_V (fun vals ex ψ => (by
          refine JL_normQ ⟨29, [(15, _), (16, _), (17, _), (18, _), (19, _), (20, _), (21, _), (22, _), (23, _), (24, _), (25, _), (26, _)], _⟩ (_ :: _ :: _ :: ψ) rfl rfl ?_
          refine JL_fieldAddrE fo51_1 rfl (by first | exact Reads.view (by repeat (first | with_reducible exact mm0 | refine mmS ?_))) (by rw [pcells_length]; omega) ?_
          exact JL_nil (JE_stepV rfl ss0))), OblS_V (fun vals ex ψ => (by
          refine JL_normQ ⟨29, [(15, _), (16, _), (17, _), (18, _), (19, _), (20, _), (21, _), (22, _), (23, _), (24, _), (25, _), (26, _)], _⟩ (_ :: _ :: _ :: ψ) rfl rfl ?_
          refine JL_loadE ty3 rfl (by first | exact Reads.view (by repeat (first | with_reducible exact mm0 | refine mmS ?_))) (pcells_one (by omega)).2 ?_
          exact JL_nil (JE_stepV rfl ss0))), OblS_V (fun vals ex ψ => (by
          refine JL_normQ ⟨29, [(15, _), (16, _), (17, _), (18, _), (19, _), (20, _), (21, _), (22, _), (23, _), (24, _), (25, _), (26, _)], _⟩ (_ :: _ :: _ :: ψ) rfl rfl ?_
          refine JL_move rfl ?_
          exact JL_nil (JE_stepV rfl ss0))), OblS_V (fun vals ex ψ => (by
          refine JL_normQ ⟨29, [(15, _), (16, _), (17, _), (18, _), (19, _), (20, _), (21, _), (22, _), (23, _), (24, _), (25, _), (26, _)], _⟩ (_ :: _ :: _ :: ψ) rfl rfl ?_
          refine JL_move rfl ?_
          exact JL_nil (JE_stepV rfl ss0))), OblS_V (fun vals ex ψ => (by
          refine JL_normQ ⟨29, [(15, _), (16, _), (17, _), (18, _), (19, _), (20, _), (21, _), (22, _), (23, _), (24, _), (25, _), (26, _)], _⟩ (_ :: _ :: _ :: ψ) rfl rfl ?_
          refine JL_indexAddr i sl22 rfl rfl rfl (by omega) (by first | exact Reads.view (by repeat (first | with_reducible exact mm0 | refine mmS ?_))) (by rw [pcells_length]; omega) ?_
          exact JL_nil (JE_stepV rfl ss0))), OblS_V (fun vals ex ψ => (by
          refine JL_normQ ⟨29, [(15, _), (16, _), (17, _), (18, _), (19, _), (20, _), (21, _), (22, _), (23, _), (24, _), (25, _), (26, _)], _⟩ (_ :: _ :: _ :: ψ) rfl rfl ?_
          refine JL_fieldAddrE fo51_0 rfl (by first | exact Reads.view (by repeat (first | with_reducible exact mm0 | refine mmS ?_))) (by rw [pcells_length]; omega) ?_
          exact JL_nil (JE_stepV rfl ss0))), OblS_V (fun vals ex ψ => (by
          refine JL_normQ ⟨29, [(15, _), (16, _), (17, _), (18, _), (19, _), (20, _), (21, _), (22, _), (23, _), (24, _), (25, _), (26, _)], _⟩ (_ :: _ :: _ :: ψ) rfl rfl ?_
          refine JL_loadE ty3 rfl (by first | exact Reads.view (by repeat (first | with_reducible exact mm0 | refine mmS ?_))) (pcells_one (by omega)).1 ?_
          exact JL_nil (JE_stepV rfl ss0))), OblS_V (fun vals ex ψ => (by
          refine JL_normQ ⟨29, [(15, _), (16, _), (17, _), (18, _), (19, _), (20, _), (21, _), (22, _), (23, _), (24, _), (25, _), (26, _)], _⟩ (_ :: _ :: _ :: ψ) rfl rfl ?_
          refine JL_build (cs := [_, _]) [(0, [_]), (1, [_])] st51 ⟨⟨rfl, _, rfl, rfl⟩, ⟨rfl, _, rfl, rfl⟩, rfl⟩ rfl ?_
          exact JL_nil (JE_stepV rfl ss0))), trivial⟩ (by kernel_rfl) (fun vals bs => ?_)
      refine JL_normL [_, _] ⟨29, [(15, _), (16, _), (17, _), (18, _), (19, _), (20, _), (21, _), (22, _), (23, _), (24, _), (25, _), (26, _)], _⟩ [] [_, _, _] rfl rfl rfl rfl ?_
      refine JL_callA' true (AsksA.cons (holdsA_of_mem (by repeat (first | with_reducible exact mm0 | refine mmS ?_))) AsksA.nil) (ins_con (l := r) (p := ((l.getD i dP).2, (l.getD i dP).1)) (by omega) hcp) rfl ca37 ⟨rfl, rfl, rfl⟩ ?_
      rintro _ _ ⟨ad27, c27, rfl, hc27, rfl⟩
      refine JL_assign rfl ?_
      refine JL_nil_up 29 [] [_, _, _, _] rfl rfl (by simp only [nrmF]; rfl) rfl rfl ?_
      refine JE_block_normal ?_
      refine JE_then ?_
      refine JC_region ?_
      refine JL_move rfl ?_
      refine JL_add_to rfl rfl (IntWalk.i64_in _ (by omega)) ?_
      refine JL_assign rfl ?_
      refine JL_nil_up 29 [] [_, _, _, _] rfl rfl (by simp only [nrmF]; rfl) rfl rfl ?_
      refine JE_nextS (i + 1, insP r ((l.getD i dP).2, (l.getD i dP).1), ad27, c27) (by kernel_rfl) ?_ ?_ (by kernel_rfl) ?_
      · exact ⟨by omega, by rw [invF, srt_snoc, hr], by have := (insP_len (p := ((l.getD i dP).2, (l.getD i dP).1)) (l := r)).2; omega, hc27.1, hc27.2⟩
      · first | omega | (dsimp only; omega)
      · exact subset_app (subset_cons (by repeat (first | with_reducible exact mm0 | refine mmS ?_)) subset_nil) (ssS (ssS ss0))
    · refine JL_done_up 29 [] [_, _, _] rfl rfl (by simp only [nrmF]; rfl) rfl rfl ?_
      refine JC_false rfl ?_
      refine JC_exit ?_
      refine JE_then_exit ?_
      refine JE_nextS_exit ?_
      refine JE_block_exit ?_
      refine JE_then ?_
      refine JC_seq ?_
      refine JC_region ?_
      refine JL_move rfl ?_
      refine JL_assign rfl ?_
      refine JL_assign rfl ?_
      refine JL_done_up 29 [] [_, _, _] rfl rfl (by simp only [nrmF]; rfl) rfl rfl ?_
      refine JC_ret ?_
      have hie : i = l.length := by omega
      rw [hie] at hr
      refine JE_ret (vs := [_, _]) [vCells ad2 (pcells r)] Try.results13 ⟨rfl, rfl, rfl⟩ ?_ ?_
      · rw [invR_ok h7, valE_ok h7, hr]; exact ⟨ad2, cap2, rfl, hcp, rfl⟩
      · exact (all_cons (by repeat (first | with_reducible exact mm0 | refine mmS ?_)) all_nil)
  · refine JL_not rfl ?_
    rw [Bool.not_false]
    refine JL_done_up 29 [] [_] rfl rfl (by simp only [nrmF]; rfl) rfl rfl ?_
    refine JC_true rfl ?_
    refine JC_seq ?_
    refine JC_region ?_
    refine JL_assign rfl ?_
    refine JL_assign rfl ?_
    refine JL_done_up 29 [] [_] rfl rfl (by simp only [nrmF]; rfl) rfl rfl ?_
    refine JC_ret ?_
    refine JE_then_ret ?_
    refine JE_addView (f := true) (p := vCells none (pcells [])) (fun _ _ => nilP) ?_
    refine JE_ret (vs := [_, _]) [vCells none (pcells [])] Try.results13 ⟨rfl, rfl, rfl⟩ ?_ ?_
    · rw [invR_no h7, valE_no h7]; exact ⟨none, 0, rfl, caps0, rfl⟩
    · exact (all_cons (by repeat (first | with_reducible exact mm0 | refine mmS ?_)) all_nil)

set_option maxHeartbeats 1000000 in
theorem compose_con {ad1 ad2 : Option Addr} {c1 c2 : Nat} {l m : List Pr} (hln : l.length ≤ 1000000) (hmn : m.length ≤ 1000000) :
    ConF Try.prog 26 [.slice ad1 l.length c1, .slice ad2 m.length c2] [vCells ad1 (pcells l), vCells ad2 (pcells m)]
      (SPP (bothR l m (cmpL l m l.length)) (bothE l m (cmpL l m l.length))) := by
  refine ConF_of Try.func26 rfl 50 _ rfl rfl ?_
  intro w0
  refine JC_norm ⟨50, [], [_, _, _, _, _, _, _, _, _, _, _, _, _, _, _, _, _, _, _, _, _, _, _, _, _, _, _, _, _, _, _, _, _, _, _, _, _, _, _, _, _, _, _, _, _, _, _, _, _, _]⟩ [] [_, _] rfl rfl rfl ?_
  refine JC_seq ?_
  refine JC_region ?_
  refine JL_assign rfl ?_
  refine JL_assign rfl ?_
  refine JL_done_up 50 [] [_, _] rfl rfl (by simp only [nrmF]; rfl) rfl rfl ?_
  refine JC_seq ?_
  refine JC_seq ?_
  refine JC_region ?_
  refine JL_move rfl ?_
  refine JL_callF' (Asks.cons (holds_of_mem (by repeat (first | with_reducible exact mm0 | refine mmS ?_))) Asks.nil) (valid_con (by omega)) rfl ca24 ⟨rfl, rfl⟩ ?_
  rintro _ _ ⟨rfl, rfl⟩
  refine JL_split (fun h12 => ?_) (fun h12 => ?_)
  · refine JL_not rfl ?_
    rw [Bool.not_true]
    refine JL_move rfl ?_
    refine JL_guard_yes rfl rfl ?_
    refine JL_move rfl ?_
    refine JL_guard_yes rfl rfl ?_
    refine JL_callF' (Asks.cons (holds_of_mem (by repeat (first | with_reducible exact mm0 | refine mmS ?_))) Asks.nil) (valid_con (by omega)) rfl ca24 ⟨rfl, rfl⟩ ?_
    rintro _ _ ⟨rfl, rfl⟩
    refine JL_split (fun h16 => ?_) (fun h16 => ?_)
    · refine JL_guard_yes rfl rfl ?_
      refine JL_not rfl ?_
      rw [Bool.not_true]
      refine JL_pick_f rfl rfl ?_
      refine JL_done_up 50 [] [_, _] rfl rfl (by simp only [nrmF]; rfl) rfl rfl ?_
      refine JC_false rfl ?_
      refine JC_skip ?_
      refine JE_then ?_
      refine JC_seq ?_
      refine JC_region ?_
      refine JL_assign rfl ?_
      refine JL_done_up 50 [] [_, _] rfl rfl (by simp only [nrmF]; rfl) rfl rfl ?_
      refine JC_seq ?_
      refine JC_seq ?_
      refine JC_region ?_
      refine JL_move rfl ?_
      refine JL_len sl22 rfl ?_
      refine JL_move rfl ?_
      refine JL_done_up 50 [] [_, _] rfl rfl (by simp only [nrmF]; rfl) rfl rfl ?_
      refine JC_block ?_
      refine JC_addNil 51 2 ?_
      refine JC_norm ⟨50, [], [_, _, _, _, _, _, _, _, _, _, _, _, _, _, _, _, _, _, _, _, _, _, _, _, _, _, _, _, _, _, _, _, _, _, _, _, _, _, _, _, _, _, _, _, _, _, _, _, _, _]⟩ [osl _ _ _ _ _ _] [_, _] rfl rfl rfl ?_
      refine JC_loopS ((Nat) × (List Pr) × (Option Addr) × (Nat) × (Nat)) (fun (i, r, ad3, cap3, n3) => i ≤ l.length ∧ cmpL l m i = r ∧ r.length = n3) (fun (i, r, ad3, cap3, n3) => l.length - i) (fun u (i, r, ad3, cap3, n3) => [none, none, none, none, none, none, some (.slice ad3 n3 cap3), none, some (u 8), none, some (u 10), none, none, none, none, none, none, none, none, none, none, some (.int .i64 (i : Nat)), some (u 22), some (u 23), some (u 24), some (u 25), some (u 26), some (u 27), some (u 28), some (u 29), some (u 30), some (u 31), some (u 32), some (u 33), some (u 34), some (u 35), some (u 36), some (u 37), some (u 38), some (u 39), some (u 40), some (u 41), some (u 42), some (u 43), some (u 44), some (u 45), none, none, none, none]) (fun (i, r, ad3, cap3, n3) => [some (osl ad3 n3 cap3 51 2 (pcells r))]) (fun (i, r, ad3, cap3, n3) => []) (0, [], none, 0, 0) (by kernel_rfl) ?_ (by kernel_rfl) ?_ ?_
      · exact ⟨Nat.zero_le _, rfl, rfl⟩
      · exact subset_nil
      intro u i hC
      obtain ⟨i, r, ad3, cap3, n3⟩ := i
      obtain ⟨hi, hr, hn3⟩ := hC
      refine JC_norm ⟨50, [], [_, _, _, _, _, _, _, _, _, _, _, _, _, _, _, _, _, _, _, _, _, _, _, _, _, _, _, _, _, _, _, _, _, _, _, _, _, _, _, _, _, _, _, _, _, _, _, _, _, _]⟩ [osl _ _ _ _ _ _] [_, _] rfl rfl rfl ?_
      refine JC_seq ?_
      refine JC_region ?_
      refine JL_lss rfl rfl ?_
      refine JL_split (fun h22 => ?_) (fun h22 => ?_)
      · refine JL_done_up 50 [osl _ _ _ _ _ _] [_, _] rfl rfl (by simp only [nrmF]; rfl) rfl rfl ?_
        refine JC_seq ?_
        refine JC_true rfl ?_
        refine JC_skip ?_
        refine JE_then ?_
        refine JC_seq ?_
        refine JC_block ?_
        refine JC_seq ?_
        refine JC_region ?_
        refine JL_indexAddr i sl22 rfl rfl rfl (by omega) (by first | exact Reads.view (by repeat (first | with_reducible exact mm0 | refine mmS ?_)) | (exact Reads.own 0 rfl)) (by rw [pcells_length]; omega) ?_
        refine JL_loadEA (vs := [_, _]) ty51 (Nat.zero_lt_succ _) rfl (by first | exact Reads.view (by repeat (first | with_reducible exact mm0 | refine mmS ?_)) | (exact Reads.own 0 rfl)) (pcells_getA (by omega)) ?_
        refine JL_alloc z51 (fun b8 => ?_)
        refine JL_store (vs := [_, _]) 1 ty51 rfl rfl rfl (AllOne.cons rfl (AllOne.cons rfl AllOne.nil)) rfl (Nat.le_of_ble_eq_true rfl) ?_
        refine JL_done_up 50 [osl _ _ _ _ _ _, box _ _ [_, _]] [_, _] rfl rfl (by simp only [nrmF]; rfl) rfl rfl ?_
        refine JC_seq ?_
        refine JC_region ?_
        refine JL_move rfl ?_
        refine JL_len sl22 rfl ?_
        refine JL_move rfl ?_
        refine JL_done_up 50 [osl _ _ _ _ _ _, box _ _ [_, _]] [_, _] rfl rfl (by simp only [nrmF]; rfl) rfl rfl ?_
        refine JC_block ?_
        refine JC_loopS ((Nat) × (List Pr) × (Option Addr) × (Nat) × (Nat)) (fun (j, r2, ad4, cap4, n4) => j ≤ m.length ∧ cmpL l m i ++ cmpJ (l.getD i dP) m j = r2 ∧ r2.length = n4) (fun (j, r2, ad4, cap4, n4) => m.length - j) (fun u (j, r2, ad4, cap4, n4) => [none, none, none, none, none, none, some (.slice ad4 n4 cap4), none, none, none, some (u 10), none, none, none, none, none, none, none, none, none, none, none, none, none, none, none, none, some (.int .i64 (j : Nat)), some (u 28), some (u 29), some (u 30), some (u 31), some (u 32), some (u 33), some (u 34), some (u 35), some (u 36), some (u 37), some (u 38), some (u 39), some (u 40), some (u 41), some (u 42), some (u 43), some (u 44), none, none, none, none, none]) (fun (j, r2, ad4, cap4, n4) => [some (osl ad4 n4 cap4 51 2 (pcells r2)), none]) (fun (j, r2, ad4, cap4, n4) => []) (0, r, ad3, cap3, n3) (by kernel_rfl) ?_ (by kernel_rfl) ?_ ?_
        · exact ⟨Nat.zero_le _, by rw [cmpJ, List.append_nil, hr], hn3⟩
        · exact subset_nil
        intro u i hC
        obtain ⟨j, r2, ad4, cap4, n4⟩ := i
        obtain ⟨hj, hr2, hn4⟩ := hC
        refine JC_norm ⟨50, [], [_, _, _, _, _, _, _, _, _, _, _, _, _, _, _, _, _, _, _, _, _, _, _, _, _, _, _, _, _, _, _, _, _, _, _, _, _, _, _, _, _, _, _, _, _, _, _, _, _, _]⟩ [osl _ _ _ _ _ _, box _ _ [_, _]] [_, _] rfl rfl rfl ?_
        have hL1 := cmpL_len l m i
        have hJ1 := cmpJ_len (l.getD i dP) m j
        have hR1 := congrArg List.length hr2
        rw [List.length_append, hn4] at hR1
        have hM1 : i * m.length ≤ 128 * 128 := Nat.mul_le_mul (by have := h12.2; omega) h16.2
        have hm128 := h16.2
        refine JC_seq ?_
        refine JC_region ?_
        refine JL_lss rfl rfl ?_
        refine JL_split (fun h28 => ?_) (fun h28 => ?_)
        · refine JL_done_up 50 [osl _ _ _ _ _ _, box _ _ [_, _]] [_, _] rfl rfl (by simp only [nrmF]; rfl) rfl rfl ?_
          refine JC_seq ?_
          refine JC_true rfl ?_
          refine JC_skip ?_
          refine JE_then ?_
          refine JC_seq ?_
          refine JC_block ?_
          refine JC_seq ?_
          refine JC_region ?_
          refine JL_indexAddr j sl22 rfl rfl rfl (by omega) (by first | exact Reads.view (by repeat (first | with_reducible exact mm0 | refine mmS ?_)) | (exact Reads.own 0 rfl)) (by rw [pcells_length]; omega) ?_
          refine JL_loadEA (vs := [_, _]) ty51 (Nat.zero_lt_succ _) rfl (by first | exact Reads.view (by repeat (first | with_reducible exact mm0 | refine mmS ?_)) | (exact Reads.own 0 rfl)) (pcells_getA (by omega)) ?_
          refine JL_alloc z51 (fun b10 => ?_)
          refine JL_store (vs := [_, _]) 2 ty51 rfl rfl rfl (AllOne.cons rfl (AllOne.cons rfl AllOne.nil)) rfl (Nat.le_of_ble_eq_true rfl) ?_
          refine JL_done_up 50 [osl _ _ _ _ _ _, box _ _ [_, _], box _ _ [_, _]] [_, _] rfl rfl (by simp only [nrmF]; rfl) rfl rfl ?_
          refine JC_seq ?_
          refine JC_region ?_
          refine JL_fieldAddr fo51_1 rfl ?_
          refine JL_load 1 ty3 rfl rfl rfl ?_
          refine JL_fieldAddr fo51_0 rfl ?_
          refine JL_load 2 ty3 rfl rfl rfl ?_
          refine JL_eql rfl rfl ?_
          refine JL_split (fun h35 => ?_) (fun h35 => ?_)
          · refine JL_done_up 50 [osl _ _ _ _ _ _, box _ _ [_, _], box _ _ [_, _]] [_, _] rfl rfl (by simp only [nrmF]; rfl) rfl rfl ?_
            refine JC_true rfl ?_
            refine JC_region ?_
            refine JL_move rfl ?_
            refine JL_fieldAddr fo51_0 rfl ?_
            refine JL_load 1 ty3 rfl rfl rfl ?_
            refine JL_fieldAddr fo51_1 rfl ?_
            refine JL_load 2 ty3 rfl rfl rfl ?_
            refine JL_build (cs := [_, _]) [(0, [_]), (1, [_])] st51 ⟨⟨rfl, _, rfl, rfl⟩, ⟨rfl, _, rfl, rfl⟩, rfl⟩ rfl ?_
            refine JL_buildN (cs0 := [.int .i64 0, .int .i64 0]) (cs := [_, _]) [(0, [_, _])] sl22 (by kernel_rfl) ⟨⟨rfl, _, rfl, rfl⟩, rfl⟩ rfl rfl rfl rfl (fun g42 => ?_)
            refine JL_append (news := [_, _]) 0 sl22 rfl (by decide) rfl rfl rfl rfl (Reads.own 3 rfl) (AllOne.cons rfl (AllOne.cons rfl AllOne.nil)) (by omega) (by omega) (fun ad43 cap43 hc43 => ?_)
            refine JL_dropAt 3 ?_
            refine JL_norm _ [osl _ _ _ _ _ _, box _ _ [_, _], box _ _ [_, _]] [_, _] rfl rfl rfl ?_
            rw [show pcells r2 ++ pc ((l.getD i dP).1, (m.getD j dP).2) = pcells (r2 ++ [((l.getD i dP).1, (m.getD j dP).2)]) from pcells_snoc r2 _]
            refine JL_assign rfl ?_
            refine JL_nil_up 50 [osl _ _ _ _ _ _, box _ _ [_, _], box _ _ [_, _]] [_, _] rfl rfl (by simp only [nrmF]; rfl) rfl rfl ?_
            refine JE_block_normal ?_
            refine JE_then ?_
            refine JC_region ?_
            refine JL_add_to rfl rfl (IntWalk.i64_in _ (by omega)) ?_
            refine JL_move rfl ?_
            refine JL_nil_up 50 [osl _ _ _ _ _ _, box _ _ [_, _], box _ _ [_, _]] [_, _] rfl rfl (by simp only [nrmF]; rfl) rfl rfl ?_
            refine JE_dropAt 2 ?_
            refine JE_norm _ [osl _ _ _ _ _ _, box _ _ [_, _]] [_, _] rfl rfl rfl ?_
            refine JE_nextS (j + 1, r2 ++ [((l.getD i dP).1, (m.getD j dP).2)], ad43, cap43, n4 + 1) (by kernel_rfl) ?_ ?_ (by kernel_rfl) ?_
            · exact ⟨by omega, by rw [cmpJ, if_pos h35, ← List.append_assoc, hr2], by rw [List.length_append, hn4]; rfl⟩
            · first | omega | (dsimp only; omega)
            · exact subset_app subset_nil ss0
          · refine JL_done_up 50 [osl _ _ _ _ _ _, box _ _ [_, _], box _ _ [_, _]] [_, _] rfl rfl (by simp only [nrmF]; rfl) rfl rfl ?_
            refine JC_false rfl ?_
            refine JC_skip ?_
            refine JE_block_normal ?_
            refine JE_then ?_
            refine JC_region ?_
            refine JL_add_to rfl rfl (IntWalk.i64_in _ (by omega)) ?_
            refine JL_move rfl ?_
            refine JL_nil_up 50 [osl _ _ _ _ _ _, box _ _ [_, _], box _ _ [_, _]] [_, _] rfl rfl (by simp only [nrmF]; rfl) rfl rfl ?_
            refine JE_dropAt 2 ?_
            refine JE_norm _ [osl _ _ _ _ _ _, box _ _ [_, _]] [_, _] rfl rfl rfl ?_
            refine JE_nextS (j + 1, r2, ad4, cap4, n4) (by kernel_rfl) ?_ ?_ (by kernel_rfl) ?_
            · exact ⟨by omega, by rw [cmpJ, if_neg h35, hr2], hn4⟩
            · first | omega | (dsimp only; omega)
            · exact subset_app subset_nil ss0
        · refine JL_done_up 50 [osl _ _ _ _ _ _, box _ _ [_, _]] [_, _] rfl rfl (by simp only [nrmF]; rfl) rfl rfl ?_
          refine JC_seq ?_
          refine JC_false rfl ?_
          refine JC_exit ?_
          refine JE_then_exit ?_
          refine JE_nextS_exit ?_
          refine JE_block_exit ?_
          refine JE_block_normal ?_
          refine JE_then ?_
          refine JC_region ?_
          refine JL_add_to rfl rfl (IntWalk.i64_in _ (by omega)) ?_
          refine JL_move rfl ?_
          refine JL_nil_up 50 [osl _ _ _ _ _ _, box _ _ [_, _]] [_, _] rfl rfl (by simp only [nrmF]; rfl) rfl rfl ?_
          refine JE_dropAt 1 ?_
          refine JE_norm _ [osl _ _ _ _ _ _] [_, _] rfl rfl rfl ?_
          refine JE_nextS (i + 1, r2, ad4, cap4, n4) (by kernel_rfl) ?_ ?_ (by kernel_rfl) ?_
          · exact ⟨by omega, by rw [cmpL, ← hr2, show j = m.length from by omega], hn4⟩
          · first | omega | (dsimp only; omega)
          · exact subset_app subset_nil ss0
      · refine JL_done_up 50 [osl _ _ _ _ _ _] [_, _] rfl rfl (by simp only [nrmF]; rfl) rfl rfl ?_
        refine JC_seq ?_
        refine JC_false rfl ?_
        refine JC_exit ?_
        refine JE_then_exit ?_
        refine JE_nextS_exit ?_
        refine JE_block_exit ?_
        refine JE_then ?_
        refine JC_seq ?_
        have hie : i = l.length := by omega
        subst hn3
        rw [hie] at hr
        have hL2 := cmpL_len l m l.length
        rw [hr] at hL2
        have hM2 : l.length * m.length ≤ 128 * 128 := Nat.mul_le_mul h12.2 h16.2
        refine JC_region ?_
        refine JL_move rfl ?_
        refine JL_callO AsksO.nil (sorted_con (l := r) (by omega)) rfl ca36 ⟨rfl, rfl⟩ ?_
        rintro _ _ _ ⟨ad47, c47, rfl, hc47, rfl, rfl⟩
        refine JL_extract rfl rfl ?_
        refine JL_extract rfl rfl ?_
        refine JL_assign rfl ?_
        refine JL_assign rfl ?_
        refine JL_done_up 50 [] [_, _, _] rfl rfl (by simp only [nrmF]; rfl) rfl rfl ?_
        refine JC_ret ?_
        refine JE_ret (vs := [_, _]) [vCells ad47 (pcells (sortR r))] Try.results26 ⟨rfl, rfl, rfl⟩ ?_ ?_
        · rw [(both_ok (R := cmpL l m l.length) ⟨h12, h16⟩).1, (both_ok (R := cmpL l m l.length) ⟨h12, h16⟩).2, hr]; exact ⟨ad47, c47, rfl, hc47, rfl⟩
        · exact (all_cons (by repeat (first | with_reducible exact mm0 | refine mmS ?_)) all_nil)
    · refine JL_guard_yes rfl rfl ?_
      refine JL_not rfl ?_
      rw [Bool.not_false]
      refine JL_pick_f rfl rfl ?_
      refine JL_done_up 50 [] [_, _] rfl rfl (by simp only [nrmF]; rfl) rfl rfl ?_
      refine JC_true rfl ?_
      refine JC_seq ?_
      refine JC_region ?_
      refine JL_assign rfl ?_
      refine JL_assign rfl ?_
      refine JL_done_up 50 [] [_, _] rfl rfl (by simp only [nrmF]; rfl) rfl rfl ?_
      refine JC_ret ?_
      refine JE_then_ret ?_
      refine JE_addView (f := true) (p := vCells none (pcells [])) (fun _ _ => nilP) ?_
      refine JE_ret (vs := [_, _]) [vCells none (pcells [])] Try.results26 ⟨rfl, rfl, rfl⟩ ?_ ?_
      · rw [(both_no (R := cmpL l m l.length) (fun e => h16 e.2)).1, (both_no (R := cmpL l m l.length) (fun e => h16 e.2)).2]; exact ⟨none, 0, rfl, caps0, rfl⟩
      · exact (all_cons (by repeat (first | with_reducible exact mm0 | refine mmS ?_)) all_nil)
  · refine JL_not rfl ?_
    rw [Bool.not_false]
    refine JL_move rfl ?_
    refine JL_guard_no rfl rfl ?_
    refine JL_guard_no rfl rfl ?_
    refine JL_guard_no rfl rfl ?_
    refine JL_pick_t rfl rfl ?_
    refine JL_done_up 50 [] [_, _] rfl rfl (by simp only [nrmF]; rfl) rfl rfl ?_
    refine JC_true rfl ?_
    refine JC_seq ?_
    refine JC_region ?_
    refine JL_assign rfl ?_
    refine JL_assign rfl ?_
    refine JL_done_up 50 [] [_, _] rfl rfl (by simp only [nrmF]; rfl) rfl rfl ?_
    refine JC_ret ?_
    refine JE_then_ret ?_
    refine JE_addView (f := true) (p := vCells none (pcells [])) (fun _ _ => nilP) ?_
    refine JE_ret (vs := [_, _]) [vCells none (pcells [])] Try.results26 ⟨rfl, rfl, rfl⟩ ?_ ?_
    · rw [(both_no (R := cmpL l m l.length) (fun e => h12 e.1)).1, (both_no (R := cmpL l m l.length) (fun e => h12 e.1)).2]; exact ⟨none, 0, rfl, caps0, rfl⟩
    · exact (all_cons (by repeat (first | with_reducible exact mm0 | refine mmS ?_)) all_nil)

end Go.Fw.K
