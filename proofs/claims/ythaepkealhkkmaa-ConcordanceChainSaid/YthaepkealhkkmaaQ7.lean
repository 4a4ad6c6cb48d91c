/- Walks through functions of the given program: each meets its contract. (Printed by a program of this repo.) -/
import Derived.Test.YthaepkealhkkmaaQ6
import Derived.Test.YthaepkealhkkmaaCcC
import Derived.Test.YthaepkealhkkmaaProg
namespace Go.Fw.Q7
open Go Go.RowKit Go.Proofs Go.Nat9 Go.Fw
attribute [local irreducible] JC JL JE
theorem ca12 : callable Try.prog 12 = true := by kernel_rfl
theorem ca13 : callable Try.prog 13 = true := by kernel_rfl
theorem ca14 : callable Try.prog 14 = true := by kernel_rfl
theorem ca15 : callable Try.prog 15 = true := by kernel_rfl
theorem ca16 : callable Try.prog 16 = true := by kernel_rfl
theorem ca17 : callable Try.prog 17 = true := by kernel_rfl
theorem ca19 : callable Try.prog 19 = true := by kernel_rfl
theorem ca24 : callable Try.prog 24 = true := by kernel_rfl
theorem ca25 : callable Try.prog 25 = true := by kernel_rfl
theorem ca38 : callable Try.prog 38 = true := by kernel_rfl
theorem fo51_0 : fOf Try.prog 51 0 = some 0 := by kernel_rfl
theorem mixed : Try.prog.follows .mixedOrders = true := by kernel_rfl
theorem sl22 : slOf Try.prog 22 = some (51, 2, 16, [.int .i64 0, .int .i64 0]) := by kernel_rfl
theorem sl28 : slOf Try.prog 28 = some (3, 1, 8, [.int .i64 0]) := by kernel_rfl
theorem ty3 : tyOf Try.prog 3 = some (false, 1) := by kernel_rfl
theorem ty51 : tyOf Try.prog 51 = some (true, 2) := by kernel_rfl
theorem z51 : zeroOf Try.prog 51 = some [.int .i64 0, .int .i64 0] := by kernel_rfl
end Go.Fw.Q7
namespace Go.Fw.K
open Go Go.RowKit Go.Proofs Go.Nat9 Go.Fw Go.Fw.Q7
attribute [local irreducible] JC JL JE

set_option maxHeartbeats 1000000 in
theorem spl_con {ad : Option Addr} {c : Nat} {l : List Pr} (hln : l.length ≤ 1000000) :
    ConF Try.prog 14 [.slice ad l.length c] [vCells ad (pcells l)]
      (SPI (splR l) (valE l)) := by
  refine ConF_of Try.func14 rfl 38 _ rfl rfl ?_
  intro w0
  refine JC_norm ⟨38, [], [_, _, _, _, _, _, _, _, _, _, _, _, _, _, _, _, _, _, _, _, _, _, _, _, _, _, _, _, _, _, _, _, _, _, _, _, _, _]⟩ [] [_] rfl rfl rfl ?_
  refine JC_seq ?_
  refine JC_region ?_
  refine JL_assign rfl ?_
  refine JL_assign rfl ?_
  refine JL_done_up 38 [] [_] rfl rfl (by simp only [nrmF]; rfl) rfl rfl ?_
  refine JC_seq ?_
  refine JC_seq ?_
  refine JC_region ?_
  refine JL_move rfl ?_
  refine JL_callF' (Asks.cons (holds_of_mem (by repeat (first | with_reducible exact mm0 | refine mmS ?_))) Asks.nil) (valid_con (by omega)) rfl ca24 ⟨rfl, rfl⟩ ?_
  rintro _ _ ⟨rfl, rfl⟩
  refine JL_split (fun h8 => ?_) (fun h8 => ?_)
  · refine JL_not rfl ?_
    rw [Bool.not_true]
    refine JL_done_up 38 [] [_] rfl rfl (by simp only [nrmF]; rfl) rfl rfl ?_
    refine JC_false rfl ?_
    refine JC_skip ?_
    refine JE_then ?_
    refine JC_seq ?_
    refine JC_region ?_
    refine JL_assign rfl ?_
    refine JL_done_up 38 [] [_] rfl rfl (by simp only [nrmF]; rfl) rfl rfl ?_
    refine JC_seq ?_
    refine JC_seq ?_
    refine JC_region ?_
    refine JL_move rfl ?_
    refine JL_len sl22 rfl ?_
    refine JL_move rfl ?_
    refine JL_done_up 38 [] [_] rfl rfl (by simp only [nrmF]; rfl) rfl rfl ?_
    refine JC_block ?_
    refine JC_addNil 3 1 ?_
    refine JC_norm ⟨38, [], [_, _, _, _, _, _, _, _, _, _, _, _, _, _, _, _, _, _, _, _, _, _, _, _, _, _, _, _, _, _, _, _, _, _, _, _, _, _]⟩ [osl _ _ _ _ _ _] [_] rfl rfl rfl ?_
    refine JC_loopS ((Nat) × (List Int) × (Option Addr) × (Nat) × (Nat)) (fun (i, r, ad2, cap2, n2) => i ≤ l.length ∧ dupL l i = r ∧ r.length = n2 ∧ n2 ≤ i) (fun (i, r, ad2, cap2, n2) => l.length - i) (fun u (i, r, ad2, cap2, n2) => [none, none, none, none, some (.slice ad2 n2 cap2), some (u 5), some (u 6), none, none, none, none, none, some (.int .i64 (i : Nat)), some (u 13), some (u 14), some (u 15), some (u 16), some (u 17), some (u 18), some (u 19), some (u 20), some (u 21), some (u 22), some (u 23), some (u 24), some (u 25), some (u 26), some (u 27), some (u 28), some (u 29), some (u 30), some (u 31), some (u 32), some (u 33), some (u 34), some (u 35), none, none]) (fun (i, r, ad2, cap2, n2) => [some (osl ad2 n2 cap2 3 1 (i64s r))]) (fun (i, r, ad2, cap2, n2) => []) (0, [], none, 0, 0) (by kernel_rfl) ?_ (by kernel_rfl) ?_ ?_
    · exact ⟨Nat.zero_le _, rfl, rfl, Nat.le_refl _⟩
    · exact subset_nil
    intro u i hC
    obtain ⟨i, r, ad2, cap2, n2⟩ := i
    obtain ⟨hi, hr, hn2, hni⟩ := hC
    refine JC_norm ⟨38, [], [_, _, _, _, _, _, _, _, _, _, _, _, _, _, _, _, _, _, _, _, _, _, _, _, _, _, _, _, _, _, _, _, _, _, _, _, _, _]⟩ [osl _ _ _ _ _ _] [_] rfl rfl rfl ?_
    refine JC_seq ?_
    refine JC_region ?_
    refine JL_lss rfl rfl ?_
    refine JL_split (fun h13 => ?_) (fun h13 => ?_)
    · refine JL_done_up 38 [osl _ _ _ _ _ _] [_] rfl rfl (by simp only [nrmF]; rfl) rfl rfl ?_
      refine JC_seq ?_
      refine JC_true rfl ?_
      refine JC_skip ?_
      refine JE_then ?_
      refine JC_seq ?_
      refine JC_block ?_
      refine JC_seq ?_
      refine JC_region ?_
      refine JL_move rfl ?_
      refine JL_indexAddr i sl22 rfl rfl rfl (by omega) (by first | exact Reads.view (by repeat (first | with_reducible exact mm0 | refine mmS ?_)) | (exact Reads.own 0 rfl)) (by rw [pcells_length]; omega) ?_
      refine JL_loadEA (vs := [_, _]) ty51 (Nat.zero_lt_succ _) rfl (by first | exact Reads.view (by repeat (first | with_reducible exact mm0 | refine mmS ?_)) | (exact Reads.own 0 rfl)) (pcells_getA (by omega)) ?_
      refine JL_alloc z51 (fun b6 => ?_)
      refine JL_assign rfl ?_
      refine JL_store (vs := [_, _]) 1 ty51 rfl rfl rfl (AllOne.cons rfl (AllOne.cons rfl AllOne.nil)) rfl (Nat.le_of_ble_eq_true rfl) ?_
      refine JL_done_up 38 [osl _ _ _ _ _ _, box _ _ [_, _]] [_] rfl rfl (by simp only [nrmF]; rfl) rfl rfl ?_
      refine JC_seq ?_
      rcases dup3 i with h0 | h0
      · refine JC_drawT mixed 11 [spV 17 [] _, spV 18 [0] _, spV 19 [1] _, spV 20 [2] _, spV 21 [2] _, spV 22 [2, 4] _, spV 23 [2, 3, 5] _, spV 24 [2, 6] _, spV 25 [2, 7] _, spV 26 [2] _, spV 27 [2, 9] _] ⟨OblS_V (fun vals ex ψ => (by
            refine JL_normQ ⟨38, [(17, _), (18, _), (19, _), (20, _), (21, _), (22, _), (23, _), (24, _), (25, _), (26, _), (27, _)], _⟩ (_ :: ψ) rfl rfl ?_
            refine JL_move rfl ?_
            exact JL_nil (JE_stepV rfl ss0))), OblS_V (fun vals ex ψ => (by
            refine JL_normQ ⟨38, [(17, _), (18, _), (19, _), (20, _), (21, _), (22, _), (23, _), (24, _), (25, _), (26, _), (27, _)], _⟩ (_ :: ψ) rfl rfl ?_
            refine JL_gtr rfl rfl ?_
            rw [decide_eq_false (p := (0 : Int) < (i : Int)) (by omega)]
            exact JL_nil (JE_stepV rfl ss0))), OblS_V (fun vals ex ψ => (by
            refine JL_normQ ⟨38, [(17, _), (18, _), (19, _), (20, _), (21, _), (22, _), (23, _), (24, _), (25, _), (26, _), (27, _)], _⟩ (_ :: ψ) rfl rfl ?_
            refine JL_move rfl ?_
            exact JL_nil (JE_stepV rfl ss0))), OblS_V (fun vals ex ψ => (by
            refine JL_normQ ⟨38, [(17, _), (18, _), (19, _), (20, _), (21, _), (22, _), (23, _), (24, _), (25, _), (26, _), (27, _)], _⟩ (_ :: ψ) rfl rfl ?_
            refine JL_guard_no rfl rfl ?_
            exact JL_nil (JE_stepV rfl ss0))), OblS_V (fun vals ex ψ => (by
            refine JL_normQ ⟨38, [(17, _), (18, _), (19, _), (20, _), (21, _), (22, _), (23, _), (24, _), (25, _), (26, _), (27, _)], _⟩ (_ :: ψ) rfl rfl ?_
            refine JL_guard_no rfl rfl ?_
            exact JL_nil (JE_stepV rfl ss0))), OblS_V (fun vals ex ψ => (by
            refine JL_normQ ⟨38, [(17, _), (18, _), (19, _), (20, _), (21, _), (22, _), (23, _), (24, _), (25, _), (26, _), (27, _)], _⟩ (_ :: ψ) rfl rfl ?_
            refine JL_guard_no rfl rfl ?_
            exact JL_nil (JE_stepV rfl ss0))), OblS_V (fun vals ex ψ => (by
            refine JL_normQ ⟨38, [(17, _), (18, _), (19, _), (20, _), (21, _), (22, _), (23, _), (24, _), (25, _), (26, _), (27, _)], _⟩ (_ :: ψ) rfl rfl ?_
            refine JL_guard_no rfl rfl ?_
            exact JL_nil (JE_stepV rfl ss0))), OblS_V (fun vals ex ψ => (by
            refine JL_normQ ⟨38, [(17, _), (18, _), (19, _), (20, _), (21, _), (22, _), (23, _), (24, _), (25, _), (26, _), (27, _)], _⟩ (_ :: ψ) rfl rfl ?_
            refine JL_guard_no rfl rfl ?_
            exact JL_nil (JE_stepV rfl ss0))), OblS_V (fun vals ex ψ => (by
            refine JL_normQ ⟨38, [(17, _), (18, _), (19, _), (20, _), (21, _), (22, _), (23, _), (24, _), (25, _), (26, _), (27, _)], _⟩ (_ :: ψ) rfl rfl ?_
            refine JL_guard_no rfl rfl ?_
            exact JL_nil (JE_stepV rfl ss0))), OblS_V (fun vals ex ψ => (by
            refine JL_normQ ⟨38, [(17, _), (18, _), (19, _), (20, _), (21, _), (22, _), (23, _), (24, _), (25, _), (26, _), (27, _)], _⟩ (_ :: ψ) rfl rfl ?_
            refine JL_guard_no rfl rfl ?_
            exact JL_nil (JE_stepV rfl ss0))), OblS_V (fun vals ex ψ => (by
            refine JL_normQ ⟨38, [(17, _), (18, _), (19, _), (20, _), (21, _), (22, _), (23, _), (24, _), (25, _), (26, _), (27, _)], _⟩ (_ :: ψ) rfl rfl ?_
            refine JL_guard_no rfl rfl ?_
            exact JL_nil (JE_stepV rfl ss0))), trivial⟩ (by kernel_rfl) (fun vals bs => ?_)
        refine JL_normL [_, _] ⟨38, [(17, _), (18, _), (19, _), (20, _), (21, _), (22, _), (23, _), (24, _), (25, _), (26, _), (27, _)], _⟩ [osl _ _ _ _ _ _, box _ _ [_, _]] [_] rfl rfl rfl rfl ?_
        refine JL_guard_no rfl rfl ?_
        refine JL_pick_f rfl rfl ?_
        refine JL_done_up 38 [osl _ _ _ _ _ _, box _ _ [_, _]] [_] rfl rfl (by simp only [nrmF]; rfl) rfl rfl ?_
        refine JC_false rfl ?_
        refine JC_skip ?_
        refine JE_block_normal ?_
        refine JE_then ?_
        refine JC_region ?_
        refine JL_add_to rfl rfl (IntWalk.i64_in _ (by omega)) ?_
        refine JL_move rfl ?_
        refine JL_nil_up 38 [osl _ _ _ _ _ _, box _ _ [_, _]] [_] rfl rfl (by simp only [nrmF]; rfl) rfl rfl ?_
        refine JE_dropAt 1 ?_
        refine JE_norm _ [osl _ _ _ _ _ _] [_] rfl rfl rfl ?_
        refine JE_nextS (i + 1, r, ad2, cap2, n2) (by kernel_rfl) ?_ ?_ (by kernel_rfl) ?_
        · exact ⟨by omega, by rw [dupL, if_neg (fun e => absurd e.1 (by omega)), hr], hn2, by omega⟩
        · first | omega | (dsimp only; omega)
        · exact subset_app subset_nil ss0
      · refine JC_drawT mixed 11 [spV 17 [] _, spV 18 [0] _, spV 19 [1] _, spV 20 [2] _, spV 21 [2] _, spV 22 [2, 4] _, spV 23 [2, 3, 5] _, spV 24 [2, 6] _, spV 25 [2, 7] _, spV 26 [2] _, spV 27 [2, 9] _] ⟨OblS_V (fun vals ex ψ => (by
            refine JL_normQ ⟨38, [(17, _), (18, _), (19, _), (20, _), (21, _), (22, _), (23, _), (24, _), (25, _), (26, _), (27, _)], _⟩ (_ :: ψ) rfl rfl ?_
            refine JL_move rfl ?_
            exact JL_nil (JE_stepV rfl ss0))), OblS_V (fun vals ex ψ => (by
            refine JL_normQ ⟨38, [(17, _), (18, _), (19, _), (20, _), (21, _), (22, _), (23, _), (24, _), (25, _), (26, _), (27, _)], _⟩ (_ :: ψ) rfl rfl ?_
            refine JL_gtr rfl rfl ?_
            rw [decide_eq_true (p := (0 : Int) < (i : Int)) (by omega)]
            exact JL_nil (JE_stepV rfl ss0))), OblS_V (fun vals ex ψ => (by
            refine JL_normQ ⟨38, [(17, _), (18, _), (19, _), (20, _), (21, _), (22, _), (23, _), (24, _), (25, _), (26, _), (27, _)], _⟩ (_ :: ψ) rfl rfl ?_
            refine JL_move rfl ?_
            exact JL_nil (JE_stepV rfl ss0))), OblS_V (fun vals ex ψ => (by
            refine JL_normQ ⟨38, [(17, _), (18, _), (19, _), (20, _), (21, _), (22, _), (23, _), (24, _), (25, _), (26, _), (27, _)], _⟩ (_ :: ψ) rfl rfl ?_
            refine JL_guard_yes rfl rfl ?_
            refine JL_move rfl ?_
            exact JL_nil (JE_stepV rfl ss0))), OblS_V (fun vals ex ψ => (by
            refine JL_normQ ⟨38, [(17, _), (18, _), (19, _), (20, _), (21, _), (22, _), (23, _), (24, _), (25, _), (26, _), (27, _)], _⟩ (_ :: ψ) rfl rfl ?_
            refine JL_guard_yes rfl rfl ?_
            refine JL_move rfl ?_
            exact JL_nil (JE_stepV rfl ss0))), OblS_V (fun vals ex ψ => (by
            refine JL_normQ ⟨38, [(17, _), (18, _), (19, _), (20, _), (21, _), (22, _), (23, _), (24, _), (25, _), (26, _), (27, _)], _⟩ (_ :: ψ) rfl rfl ?_
            refine JL_guard_yes rfl rfl ?_
            refine JL_sub_to rfl rfl (IntWalk.i64_in _ (by omega)) ?_
            exact JL_nil (JE_stepV rfl ss0))), OblS_V (fun vals ex ψ => (by
            refine JL_normQ ⟨38, [(17, _), (18, _), (19, _), (20, _), (21, _), (22, _), (23, _), (24, _), (25, _), (26, _), (27, _)], _⟩ (_ :: ψ) rfl rfl ?_
            refine JL_guard_yes rfl rfl ?_
            refine JL_indexAddr (i - 1) sl22 rfl rfl (by omega) (by omega) (by first | exact Reads.view (by repeat (first | with_reducible exact mm0 | refine mmS ?_)) | (exact Reads.own 0 rfl)) (by rw [pcells_length]; omega) ?_
            exact JL_nil (JE_stepV rfl ss0))), OblS_V (fun vals ex ψ => (by
            refine JL_normQ ⟨38, [(17, _), (18, _), (19, _), (20, _), (21, _), (22, _), (23, _), (24, _), (25, _), (26, _), (27, _)], _⟩ (_ :: ψ) rfl rfl ?_
            refine JL_guard_yes rfl rfl ?_
            refine JL_fieldAddrE fo51_0 rfl (by first | exact Reads.view (by repeat (first | with_reducible exact mm0 | refine mmS ?_)) | (exact Reads.own 0 rfl)) (by rw [pcells_length]; omega) ?_
            exact JL_nil (JE_stepV rfl ss0))), OblS_V (fun vals ex ψ => (by
            refine JL_normQ ⟨38, [(17, _), (18, _), (19, _), (20, _), (21, _), (22, _), (23, _), (24, _), (25, _), (26, _), (27, _)], _⟩ (_ :: ψ) rfl rfl ?_
            refine JL_guard_yes rfl rfl ?_
            refine JL_loadE ty3 rfl (by first | exact Reads.view (by repeat (first | with_reducible exact mm0 | refine mmS ?_)) | (exact Reads.own 0 rfl)) (pcells_one (by omega)).1 ?_
            exact JL_nil (JE_stepV rfl ss0))), OblS_V (fun vals ex ψ => (by
            refine JL_normQ ⟨38, [(17, _), (18, _), (19, _), (20, _), (21, _), (22, _), (23, _), (24, _), (25, _), (26, _), (27, _)], _⟩ (_ :: ψ) rfl rfl ?_
            refine JL_guard_yes rfl rfl ?_
            refine JL_fieldAddr fo51_0 rfl ?_
            exact JL_nil (JE_stepV rfl ss0))), OblS_V (fun vals ex ψ => (by
            refine JL_normQ ⟨38, [(17, _), (18, _), (19, _), (20, _), (21, _), (22, _), (23, _), (24, _), (25, _), (26, _), (27, _)], _⟩ (_ :: ψ) rfl rfl ?_
            refine JL_guard_yes rfl rfl ?_
            refine JL_load 1 ty3 rfl rfl rfl ?_
            exact JL_nil (JE_stepV rfl ss0))), trivial⟩ (by kernel_rfl) (fun vals bs => ?_)
        refine JL_normL [_, _] ⟨38, [(17, _), (18, _), (19, _), (20, _), (21, _), (22, _), (23, _), (24, _), (25, _), (26, _), (27, _)], _⟩ [osl _ _ _ _ _ _, box _ _ [_, _]] [_] rfl rfl rfl rfl ?_
        refine JL_guard_yes rfl rfl ?_
        refine JL_eql rfl rfl ?_
        refine JL_pick_t rfl rfl ?_
        refine JL_done_up 38 [osl _ _ _ _ _ _, box _ _ [_, _]] [_] rfl rfl (by simp only [nrmF]; rfl) rfl rfl ?_
        refine JC_cond rfl (fun hb => ?_) (fun hb => ?_)
        · have h29 := of_decide_eq_true hb
          refine JC_region ?_
          refine JL_move rfl ?_
          refine JL_fieldAddr fo51_0 rfl ?_
          refine JL_load 1 ty3 rfl rfl rfl ?_
          refine JL_build1 sl28 rfl rfl (fun g33 => ?_)
          refine JL_appendI (L := _) 0 2 sl28 rfl rfl rfl rfl (by omega) (by omega) (fun ad34 cap34 hc34 => ?_)
          refine JL_dropAt 2 ?_
          refine JL_norm _ [osl _ _ _ _ _ _, box _ _ [_, _]] [_] rfl rfl rfl ?_
          refine JL_assign rfl ?_
          refine JL_nil_up 38 [osl _ _ _ _ _ _, box _ _ [_, _]] [_] rfl rfl (by simp only [nrmF]; rfl) rfl rfl ?_
          refine JE_block_normal ?_
          refine JE_then ?_
          refine JC_region ?_
          refine JL_add_to rfl rfl (IntWalk.i64_in _ (by omega)) ?_
          refine JL_move rfl ?_
          refine JL_nil_up 38 [osl _ _ _ _ _ _, box _ _ [_, _]] [_] rfl rfl (by simp only [nrmF]; rfl) rfl rfl ?_
          refine JE_dropAt 1 ?_
          refine JE_norm _ [osl _ _ _ _ _ _] [_] rfl rfl rfl ?_
          refine JE_nextS (i + 1, r ++ [(l.getD i dP).1], ad34, cap34, n2 + 1) (by kernel_rfl) ?_ ?_ (by kernel_rfl) ?_
          · exact ⟨by omega, by rw [dupL, if_pos ⟨h0, h29⟩, hr], by rw [List.length_append, hn2]; rfl, by omega⟩
          · first | omega | (dsimp only; omega)
          · exact subset_app subset_nil ss0
        · have h29 := of_decide_eq_false hb
          refine JC_skip ?_
          refine JE_block_normal ?_
          refine JE_then ?_
          refine JC_region ?_
          refine JL_add_to rfl rfl (IntWalk.i64_in _ (by omega)) ?_
          refine JL_move rfl ?_
          refine JL_nil_up 38 [osl _ _ _ _ _ _, box _ _ [_, _]] [_] rfl rfl (by simp only [nrmF]; rfl) rfl rfl ?_
          refine JE_dropAt 1 ?_
          refine JE_norm _ [osl _ _ _ _ _ _] [_] rfl rfl rfl ?_
          refine JE_nextS (i + 1, r, ad2, cap2, n2) (by kernel_rfl) ?_ ?_ (by kernel_rfl) ?_
          · exact ⟨by omega, by rw [dupL, if_neg (fun e => h29 e.2), hr], hn2, by omega⟩
          · first | omega | (dsimp only; omega)
          · exact subset_app subset_nil ss0
    · refine JL_done_up 38 [osl _ _ _ _ _ _] [_] rfl rfl (by simp only [nrmF]; rfl) rfl rfl ?_
      refine JC_seq ?_
      refine JC_false rfl ?_
      refine JC_exit ?_
      refine JE_then_exit ?_
      refine JE_nextS_exit ?_
      refine JE_block_exit ?_
      refine JE_then ?_
      refine JC_seq ?_
      have hie : i = l.length := by omega
      rw [hie] at hr
      subst hn2
      refine JC_ownCap 0 rfl (fun hcap => ?_)
      have hcl := cpG_len (z := (0 : Int)) r r.length
      refine JC_region ?_
      refine JL_move rfl ?_
      refine JL_callO AsksO.nil (cpi_con (l := r) (by omega)) rfl ca38 ⟨rfl, rfl⟩ ?_
      rintro _ _ _ ⟨rfl, rfl, rfl⟩
      refine JL_assign rfl ?_
      refine JL_assign rfl ?_
      refine JL_done_up 38 [osl _ _ _ _ _ _] [_] rfl rfl (by simp only [nrmF]; rfl) rfl rfl ?_
      refine JC_ret ?_
      refine JE_give 0 rfl ?_
      refine JE_norm _ [] [_, _] rfl rfl rfl ?_
      refine JE_ret (vs := [_, _]) [vCells ad2 (i64s (cpG 0 r r.length))] Try.results14 ⟨rfl, rfl, rfl⟩ ?_ ?_
      · rw [splR_ok h8, valE_ok h8, hr]; exact ⟨ad2, cap2, rfl, ⟨by omega, hcap.2⟩, rfl⟩
      · exact (all_cons (by repeat (first | with_reducible exact mm0 | refine mmS ?_)) all_nil)
  · refine JL_not rfl ?_
    rw [Bool.not_false]
    refine JL_done_up 38 [] [_] rfl rfl (by simp only [nrmF]; rfl) rfl rfl ?_
    refine JC_true rfl ?_
    refine JC_seq ?_
    refine JC_region ?_
    refine JL_assign rfl ?_
    refine JL_assign rfl ?_
    refine JL_done_up 38 [] [_] rfl rfl (by simp only [nrmF]; rfl) rfl rfl ?_
    refine JC_ret ?_
    refine JE_then_ret ?_
    refine JE_addView (f := true) (p := vCells none (i64s [])) (fun _ _ => nilI) ?_
    refine JE_ret (vs := [_, _]) [vCells none (i64s [])] Try.results14 ⟨rfl, rfl, rfl⟩ ?_ ?_
    · rw [splR_no h8, valE_no h8]; exact ⟨none, 0, rfl, caps0, rfl⟩
    · exact (all_cons (by repeat (first | with_reducible exact mm0 | refine mmS ?_)) all_nil)

set_option maxHeartbeats 1000000 in
theorem rspl_con {ad : Option Addr} {c : Nat} {l : List Pr} (hln : l.length ≤ 1000000) :
    ConF Try.prog 15 [.slice ad l.length c] [vCells ad (pcells l)]
      (SPI (splR l) (valE l)) := by
  refine ConF_of Try.func15 rfl 29 _ rfl rfl ?_
  intro w0
  refine JC_norm ⟨29, [], [_, _, _, _, _, _, _, _, _, _, _, _, _, _, _, _, _, _, _, _, _, _, _, _, _, _, _, _, _]⟩ [] [_] rfl rfl rfl ?_
  refine JC_seq ?_
  refine JC_region ?_
  refine JL_assign rfl ?_
  refine JL_assign rfl ?_
  refine JL_done_up 29 [] [_] rfl rfl (by simp only [nrmF]; rfl) rfl rfl ?_
  refine JC_seq ?_
  refine JC_seq ?_
  refine JC_region ?_
  refine JL_move rfl ?_
  refine JL_callF' (Asks.cons (holds_of_mem (by repeat (first | with_reducible exact mm0 | refine mmS ?_))) Asks.nil) (rvalid_con (by omega)) rfl ca25 ⟨rfl, rfl⟩ ?_
  rintro _ _ ⟨rfl, rfl⟩
  refine JL_split (fun h9 => ?_) (fun h9 => ?_)
  · refine JL_not rfl ?_
    rw [Bool.not_true]
    refine JL_done_up 29 [] [_] rfl rfl (by simp only [nrmF]; rfl) rfl rfl ?_
    refine JC_false rfl ?_
    refine JC_skip ?_
    refine JE_then ?_
    refine JC_seq ?_
    refine JC_region ?_
    refine JL_assign rfl ?_
    refine JL_done_up 29 [] [_] rfl rfl (by simp only [nrmF]; rfl) rfl rfl ?_
    refine JC_seq ?_
    refine JC_seq ?_
    refine JC_region ?_
    refine JL_assign rfl ?_
    refine JL_done_up 29 [] [_] rfl rfl (by simp only [nrmF]; rfl) rfl rfl ?_
    refine JC_block ?_
    refine JC_addNil 3 1 ?_
    refine JC_norm ⟨29, [], [_, _, _, _, _, _, _, _, _, _, _, _, _, _, _, _, _, _, _, _, _, _, _, _, _, _, _, _, _]⟩ [osl _ _ _ _ _ _] [_] rfl rfl rfl ?_
    refine JC_loopS ((Nat) × (List Int) × (Option Addr) × (Nat) × (Nat)) (fun (k, r, ad2, cap2, n2) => k ≤ 999 ∧ spN l k = r ∧ r.length = n2 ∧ n2 ≤ k ∧ n2 ≤ cap2 ∧ cap2 ≤ 9223372036854775807) (fun (k, r, ad2, cap2, n2) => 999 - k) (fun u (k, r, ad2, cap2, n2) => [none, none, none, none, some (.slice ad2 n2 cap2), some (.int .i64 ((k + 1 : Nat) : Int)), some (u 6), some (u 7), none, none, none, some (u 11), some (u 12), some (u 13), some (u 14), some (u 15), some (u 16), some (u 17), some (u 18), some (u 19), some (u 20), some (u 21), some (u 22), some (u 23), some (u 24), some (u 25), some (u 26), some (u 27), none]) (fun (k, r, ad2, cap2, n2) => [some (osl ad2 n2 cap2 3 1 (i64s r))]) (fun (k, r, ad2, cap2, n2) => []) (0, [], none, 0, 0) (by kernel_rfl) ?_ (by kernel_rfl) ?_ ?_
    · exact ⟨Nat.zero_le _, rfl, rfl, Nat.le_refl _, Nat.le_refl _, Nat.zero_le _⟩
    · exact subset_nil
    intro u i hC
    obtain ⟨k, r, ad2, cap2, n2⟩ := i
    obtain ⟨hk, hr, hn2, hni, hcp⟩ := hC
    refine JC_norm ⟨29, [], [_, _, _, _, _, _, _, _, _, _, _, _, _, _, _, _, _, _, _, _, _, _, _, _, _, _, _, _, _]⟩ [osl _ _ _ _ _ _] [_] rfl rfl rfl ?_
    refine JC_seq ?_
    refine JC_seq ?_
    refine JC_region ?_
    refine JL_move rfl ?_
    refine JL_leq rfl rfl ?_
    refine JL_split (fun h12 => ?_) (fun h12 => ?_)
    · refine JL_done_up 29 [osl _ _ _ _ _ _] [_] rfl rfl (by simp only [nrmF]; rfl) rfl rfl ?_
      refine JC_true rfl ?_
      refine JC_skip ?_
      refine JE_then ?_
      refine JC_seq ?_
      refine JC_block ?_
      refine JC_seq ?_
      refine JC_region ?_
      refine JL_move rfl ?_
      refine JL_move rfl ?_
      refine JL_callF' (Asks.cons (by first | exact holds_of_mem (by repeat (first | with_reducible exact mm0 | refine mmS ?_)) | (exact holds_of_own 0 rfl)) Asks.nil) (rlook_con (l := l) (n := ((k + 1 : Nat) : Int)) (by omega)) rfl ca19 ⟨rfl, rfl, rfl⟩ ?_
      rintro _ _ ⟨ad18, c18, rfl, hc18, rfl⟩
      rw [lukR_ok h9]
      refine JL_move rfl ?_
      refine JL_extract rfl rfl ?_
      refine JL_extract rfl rfl ?_
      refine JL_assign rfl ?_
      refine JL_assign rfl ?_
      refine JL_done_up 29 [osl _ _ _ _ _ _] [_, _] rfl rfl (by simp only [nrmF]; rfl) rfl rfl ?_
      refine JC_seq ?_
      refine JC_region ?_
      refine JL_move rfl ?_
      refine JL_len sl28 rfl ?_
      refine JL_gtr rfl rfl ?_
      refine JL_split (fun h23 => ?_) (fun h23 => ?_)
      · refine JL_done_up 29 [osl _ _ _ _ _ _] [_, _] rfl rfl (by simp only [nrmF]; rfl) rfl rfl ?_
        refine JC_true rfl ?_
        refine JC_region ?_
        refine JL_move rfl ?_
        refine JL_move rfl ?_
        refine JL_build1 sl28 rfl rfl (fun g26 => ?_)
        refine JL_appendI (L := _) 0 1 sl28 rfl rfl rfl rfl (by omega) (by omega) (fun ad27 cap27 hc27 => ?_)
        refine JL_dropAt 1 ?_
        refine JL_norm _ [osl _ _ _ _ _ _] [_, _] rfl rfl rfl ?_
        refine JL_assign rfl ?_
        refine JL_nil_up 29 [osl _ _ _ _ _ _] [_, _] rfl rfl (by simp only [nrmF]; rfl) rfl rfl ?_
        refine JE_block_normal ?_
        refine JE_then ?_
        refine JC_region ?_
        refine JL_move rfl ?_
        refine JL_add_to rfl rfl (IntWalk.i64_in _ (by omega)) ?_
        rw [show (((k + 1 : Nat) : Int) + 1 : Int) = ((k + 1 + 1 : Nat) : Int) from by omega]
        refine JL_assign rfl ?_
        refine JL_nil_up 29 [osl _ _ _ _ _ _] [_, _] rfl rfl (by simp only [nrmF]; rfl) rfl rfl ?_
        refine JE_nextS (k + 1, r ++ [((k + 1 : Nat) : Int)], ad27, cap27, n2 + 1) (by kernel_rfl) ?_ ?_ (by kernel_rfl) ?_
        · exact ⟨by omega, by rw [spN, if_pos (by omega), hr], by rw [List.length_append, hn2]; rfl, by omega, by omega, by omega⟩
        · first | omega | (dsimp only; omega)
        · exact subset_app subset_nil (ssS ss0)
      · refine JL_done_up 29 [osl _ _ _ _ _ _] [_, _] rfl rfl (by simp only [nrmF]; rfl) rfl rfl ?_
        refine JC_false rfl ?_
        refine JC_skip ?_
        refine JE_block_normal ?_
        refine JE_then ?_
        refine JC_region ?_
        refine JL_move rfl ?_
        refine JL_add_to rfl rfl (IntWalk.i64_in _ (by omega)) ?_
        rw [show (((k + 1 : Nat) : Int) + 1 : Int) = ((k + 1 + 1 : Nat) : Int) from by omega]
        refine JL_assign rfl ?_
        refine JL_nil_up 29 [osl _ _ _ _ _ _] [_, _] rfl rfl (by simp only [nrmF]; rfl) rfl rfl ?_
        refine JE_nextS (k + 1, r, ad2, cap2, n2) (by kernel_rfl) ?_ ?_ (by kernel_rfl) ?_
        · exact ⟨by omega, by rw [spN, if_neg (by omega), hr], hn2, by omega, hcp.1, hcp.2⟩
        · first | omega | (dsimp only; omega)
        · exact subset_app subset_nil (ssS ss0)
    · refine JL_done_up 29 [osl _ _ _ _ _ _] [_] rfl rfl (by simp only [nrmF]; rfl) rfl rfl ?_
      refine JC_false rfl ?_
      refine JC_exit ?_
      refine JE_then_exit ?_
      refine JE_nextS_exit ?_
      refine JE_block_exit ?_
      refine JE_then ?_
      refine JC_seq ?_
      refine JC_region ?_
      refine JL_move rfl ?_
      refine JL_assign rfl ?_
      refine JL_assign rfl ?_
      refine JL_done_up 29 [osl _ _ _ _ _ _] [_] rfl rfl (by simp only [nrmF]; rfl) rfl rfl ?_
      refine JC_ret ?_
      have hie : k = 999 := by omega
      rw [hie] at hr
      subst hn2
      refine JE_give 0 rfl ?_
      refine JE_norm _ [] [_, _] rfl rfl rfl ?_
      refine JE_ret (vs := [_, _]) [vCells ad2 (i64s r)] Try.results15 ⟨rfl, rfl, rfl⟩ ?_ ?_
      · rw [← spl_ref h9, valE_ok h9, hr]; exact ⟨ad2, cap2, rfl, hcp, rfl⟩
      · exact (all_cons (by repeat (first | with_reducible exact mm0 | refine mmS ?_)) all_nil)
  · refine JL_not rfl ?_
    rw [Bool.not_false]
    refine JL_done_up 29 [] [_] rfl rfl (by simp only [nrmF]; rfl) rfl rfl ?_
    refine JC_true rfl ?_
    refine JC_seq ?_
    refine JC_region ?_
    refine JL_assign rfl ?_
    refine JL_assign rfl ?_
    refine JL_done_up 29 [] [_] rfl rfl (by simp only [nrmF]; rfl) rfl rfl ?_
    refine JC_ret ?_
    refine JE_then_ret ?_
    refine JE_addView (f := true) (p := vCells none (i64s [])) (fun _ _ => nilI) ?_
    refine JE_ret (vs := [_, _]) [vCells none (i64s [])] Try.results15 ⟨rfl, rfl, rfl⟩ ?_ ?_
    · rw [splR_no h9, valE_no h9]; exact ⟨none, 0, rfl, caps0, rfl⟩
    · exact (all_cons (by repeat (first | with_reducible exact mm0 | refine mmS ?_)) all_nil)

theorem lum_con {ad : Option Addr} {c : Nat} {l : List Pr} (hln : l.length ≤ 1000000) :
    ConF Try.prog 16 [.slice ad l.length c] [vCells ad (pcells l)]
      (SPI (lumR l) (valE l)) := by
  refine ConF_of Try.func16 rfl 18 _ rfl rfl ?_
  intro w0
  refine JC_norm ⟨18, [], [_, _, _, _, _, _, _, _, _, _, _, _, _, _, _, _, _, _]⟩ [] [_] rfl rfl rfl ?_
  refine JC_seq ?_
  refine JC_region ?_
  refine JL_assign rfl ?_
  refine JL_assign rfl ?_
  refine JL_done_up 18 [] [_] rfl rfl (by simp only [nrmF]; rfl) rfl rfl ?_
  refine JC_seq ?_
  refine JC_region ?_
  refine JL_move rfl ?_
  refine JL_callF' (Asks.cons (holds_of_mem (by repeat (first | with_reducible exact mm0 | refine mmS ?_))) Asks.nil) (inv_con (l := l) hln) rfl ca12 ⟨rfl, rfl⟩ ?_
  rintro _ _ ⟨ad8, c8, rfl, hc8, rfl⟩
  refine JL_move rfl ?_
  refine JL_extract rfl rfl ?_
  refine JL_extract rfl rfl ?_
  refine JL_assign rfl ?_
  refine JL_assign rfl ?_
  refine JL_done_up 18 [] [_, _] rfl rfl (by simp only [nrmF]; rfl) rfl rfl ?_
  refine JC_seq ?_
  refine JC_seq ?_
  refine JC_region ?_
  refine JL_move rfl ?_
  refine JL_neq rfl rfl ?_
  refine JL_split (fun h12 => ?_) (fun h12 => ?_)
  · refine JL_done_up 18 [] [_, _] rfl rfl (by simp only [nrmF]; rfl) rfl rfl ?_
    refine JC_true rfl ?_
    refine JC_seq ?_
    refine JC_region ?_
    refine JL_move rfl ?_
    refine JL_assign rfl ?_
    refine JL_assign rfl ?_
    refine JL_done_up 18 [] [_, _] rfl rfl (by simp only [nrmF]; rfl) rfl rfl ?_
    refine JC_ret ?_
    refine JE_then_ret ?_
    refine JE_addView (f := true) (p := vCells none (i64s [])) (fun _ _ => nilI) ?_
    refine JE_ret (vs := [_, _]) [vCells none (i64s [])] Try.results16 ⟨rfl, rfl, rfl⟩ ?_ ?_
    · rw [lumR_no (fun h => h12 (valE_ok h))]; exact ⟨none, 0, rfl, caps0, rfl⟩
    · exact (all_cons (by repeat (first | with_reducible exact mm0 | refine mmS ?_)) all_nil)
  · refine JL_done_up 18 [] [_, _] rfl rfl (by simp only [nrmF]; rfl) rfl rfl ?_
    refine JC_false rfl ?_
    refine JC_skip ?_
    refine JE_then ?_
    refine JC_seq ?_
    have hv : validC l := Classical.byContradiction fun h => by rw [valE_no h] at h12; exact h12 (by decide)
    have hli := invR_len l
    refine JC_region ?_
    refine JL_move rfl ?_
    refine JL_callF' (Asks.cons (holds_of_mem (by repeat (first | with_reducible exact mm0 | refine mmS ?_))) Asks.nil) (spl_con (l := invR l) (by omega)) rfl ca14 ⟨rfl, rfl⟩ ?_
    rintro _ _ ⟨ad15, c15, rfl, hc15, rfl⟩
    rw [valE_ok (valid_inv hv)]
    refine JL_extract rfl rfl ?_
    refine JL_extract rfl rfl ?_
    refine JL_assign rfl ?_
    refine JL_assign rfl ?_
    refine JL_done_up 18 [] [_, _, _] rfl rfl (by simp only [nrmF]; rfl) rfl rfl ?_
    refine JC_ret ?_
    refine JE_ret (vs := [_, _]) [vCells ad15 (i64s (splR (invR l)))] Try.results16 ⟨rfl, rfl, rfl⟩ ?_ ?_
    · rw [lumR_ok hv, valE_ok hv]; exact ⟨ad15, c15, rfl, hc15, rfl⟩
    · exact (all_cons (by repeat (first | with_reducible exact mm0 | refine mmS ?_)) all_nil)

theorem rlum_con {ad : Option Addr} {c : Nat} {l : List Pr} (hln : l.length ≤ 1000000) :
    ConF Try.prog 17 [.slice ad l.length c] [vCells ad (pcells l)]
      (SPI (lumR l) (valE l)) := by
  refine ConF_of Try.func17 rfl 18 _ rfl rfl ?_
  intro w0
  refine JC_norm ⟨18, [], [_, _, _, _, _, _, _, _, _, _, _, _, _, _, _, _, _, _]⟩ [] [_] rfl rfl rfl ?_
  refine JC_seq ?_
  refine JC_region ?_
  refine JL_assign rfl ?_
  refine JL_assign rfl ?_
  refine JL_done_up 18 [] [_] rfl rfl (by simp only [nrmF]; rfl) rfl rfl ?_
  refine JC_seq ?_
  refine JC_region ?_
  refine JL_move rfl ?_
  refine JL_callF' (Asks.cons (holds_of_mem (by repeat (first | with_reducible exact mm0 | refine mmS ?_))) Asks.nil) (rinv_con (l := l) hln) rfl ca13 ⟨rfl, rfl⟩ ?_
  rintro _ _ ⟨ad8, c8, rfl, hc8, rfl⟩
  refine JL_move rfl ?_
  refine JL_extract rfl rfl ?_
  refine JL_extract rfl rfl ?_
  refine JL_assign rfl ?_
  refine JL_assign rfl ?_
  refine JL_done_up 18 [] [_, _] rfl rfl (by simp only [nrmF]; rfl) rfl rfl ?_
  refine JC_seq ?_
  refine JC_seq ?_
  refine JC_region ?_
  refine JL_move rfl ?_
  refine JL_neq rfl rfl ?_
  refine JL_split (fun h12 => ?_) (fun h12 => ?_)
  · refine JL_done_up 18 [] [_, _] rfl rfl (by simp only [nrmF]; rfl) rfl rfl ?_
    refine JC_true rfl ?_
    refine JC_seq ?_
    refine JC_region ?_
    refine JL_move rfl ?_
    refine JL_assign rfl ?_
    refine JL_assign rfl ?_
    refine JL_done_up 18 [] [_, _] rfl rfl (by simp only [nrmF]; rfl) rfl rfl ?_
    refine JC_ret ?_
    refine JE_then_ret ?_
    refine JE_addView (f := true) (p := vCells none (i64s [])) (fun _ _ => nilI) ?_
    refine JE_ret (vs := [_, _]) [vCells none (i64s [])] Try.results17 ⟨rfl, rfl, rfl⟩ ?_ ?_
    · rw [lumR_no (fun h => h12 (valE_ok h))]; exact ⟨none, 0, rfl, caps0, rfl⟩
    · exact (all_cons (by repeat (first | with_reducible exact mm0 | refine mmS ?_)) all_nil)
  · refine JL_done_up 18 [] [_, _] rfl rfl (by simp only [nrmF]; rfl) rfl rfl ?_
    refine JC_false rfl ?_
    refine JC_skip ?_
    refine JE_then ?_
    refine JC_seq ?_
    have hv : validC l := Classical.byContradiction fun h => by rw [valE_no h] at h12; exact h12 (by decide)
    have hli := invR_len l
    refine JC_region ?_
    refine JL_move rfl ?_
    refine JL_callF' (Asks.cons (holds_of_mem (by repeat (first | with_reducible exact mm0 | refine mmS ?_))) Asks.nil) (rspl_con (l := invR l) (by omega)) rfl ca15 ⟨rfl, rfl⟩ ?_
    rintro _ _ ⟨ad15, c15, rfl, hc15, rfl⟩
    rw [valE_ok (valid_inv hv)]
    refine JL_extract rfl rfl ?_
    refine JL_extract rfl rfl ?_
    refine JL_assign rfl ?_
    refine JL_assign rfl ?_
    refine JL_done_up 18 [] [_, _, _] rfl rfl (by simp only [nrmF]; rfl) rfl rfl ?_
    refine JC_ret ?_
    refine JE_ret (vs := [_, _]) [vCells ad15 (i64s (splR (invR l)))] Try.results17 ⟨rfl, rfl, rfl⟩ ?_ ?_
    · rw [lumR_ok hv, valE_ok hv]; exact ⟨ad15, c15, rfl, hc15, rfl⟩
    · exact (all_cons (by repeat (first | with_reducible exact mm0 | refine mmS ?_)) all_nil)

theorem ex_con {ad : Option Addr} {c : Nat} {l : List Pr} (hln : l.length ≤ 1000000) :
    ConF Try.prog 22 [.slice ad l.length c] [vCells ad (pcells l)]
      (fun v φo => v = .bool (exB l) ∧ φo = []) := by
  refine ConF_of Try.func22 rfl 33 _ rfl rfl ?_
  intro w0
  refine JC_norm ⟨33, [], [_, _, _, _, _, _, _, _, _, _, _, _, _, _, _, _, _, _, _, _, _, _, _, _, _, _, _, _, _, _, _, _, _]⟩ [] [_] rfl rfl rfl ?_
  refine JC_seq ?_
  refine JC_region ?_
  refine JL_assign rfl ?_
  refine JL_done_up 33 [] [_] rfl rfl (by simp only [nrmF]; rfl) rfl rfl ?_
  refine JC_seq ?_
  refine JC_region ?_
  refine JL_move rfl ?_
  refine JL_callF' (Asks.cons (holds_of_mem (by repeat (first | with_reducible exact mm0 | refine mmS ?_))) Asks.nil) (spl_con (l := l) hln) rfl ca14 ⟨rfl, rfl⟩ ?_
  rintro _ _ ⟨ad9, c9, rfl, hc9, rfl⟩
  refine JL_move rfl ?_
  refine JL_extract rfl rfl ?_
  refine JL_extract rfl rfl ?_
  refine JL_assign rfl ?_
  refine JL_assign rfl ?_
  refine JL_done_up 33 [] [_, _] rfl rfl (by simp only [nrmF]; rfl) rfl rfl ?_
  refine JC_seq ?_
  refine JC_region ?_
  refine JL_move rfl ?_
  refine JL_callF' (Asks.cons (holds_of_mem (by repeat (first | with_reducible exact mm0 | refine mmS ?_))) Asks.nil) (lum_con (l := l) hln) rfl ca16 ⟨rfl, rfl⟩ ?_
  rintro _ _ ⟨ad14, c14, rfl, hc14, rfl⟩
  refine JL_move rfl ?_
  refine JL_extract rfl rfl ?_
  refine JL_extract rfl rfl ?_
  refine JL_assign rfl ?_
  refine JL_assign rfl ?_
  refine JL_done_up 33 [] [_, _, _] rfl rfl (by simp only [nrmF]; rfl) rfl rfl ?_
  refine JC_seq ?_
  refine JC_region ?_
  refine JL_move rfl ?_
  refine JL_eql rfl rfl ?_
  refine JL_split (fun h18 => ?_) (fun h18 => ?_)
  · refine JL_move rfl ?_
    refine JL_guard_yes rfl rfl ?_
    refine JL_move rfl ?_
    refine JL_guard_yes rfl rfl ?_
    refine JL_eql rfl rfl ?_
    refine JL_split (fun h21 => ?_) (fun h21 => ?_)
    · refine JL_pick_t rfl rfl ?_
      refine JL_move rfl ?_
      refine JL_guard_yes rfl rfl ?_
      refine JL_move rfl ?_
      refine JL_guard_yes rfl rfl ?_
      refine JL_len sl28 rfl ?_
      refine JL_guard_yes rfl rfl ?_
      refine JL_eql rfl rfl ?_
      refine JL_split (fun h26 => ?_) (fun h26 => ?_)
      · refine JL_pick_t rfl rfl ?_
        refine JL_move rfl ?_
        refine JL_guard_yes rfl rfl ?_
        refine JL_move rfl ?_
        refine JL_guard_yes rfl rfl ?_
        refine JL_len sl28 rfl ?_
        refine JL_guard_yes rfl rfl ?_
        refine JL_eql rfl rfl ?_
        refine JL_split (fun h31 => ?_) (fun h31 => ?_)
        · refine JL_pick_t rfl rfl ?_
          refine JL_assign rfl ?_
          refine JL_done_up 33 [] [_, _, _] rfl rfl (by simp only [nrmF]; rfl) rfl rfl ?_
          refine JC_ret ?_
          refine JE_ret (vs := [_]) [] Try.results22 ⟨rfl, rfl⟩ ?_ ?_
          · rw [show exB l = true from decide_eq_true ⟨Classical.byContradiction fun h => by rw [valE_no h] at h18; exact absurd h18 (by decide), by omega, by omega⟩]; exact ⟨rfl, rfl⟩
          · exact all_nil
        · refine JL_pick_t rfl rfl ?_
          refine JL_assign rfl ?_
          refine JL_done_up 33 [] [_, _, _] rfl rfl (by simp only [nrmF]; rfl) rfl rfl ?_
          refine JC_ret ?_
          refine JE_ret (vs := [_]) [] Try.results22 ⟨rfl, rfl⟩ ?_ ?_
          · rw [show exB l = false from decide_eq_false (fun h => h31 (by omega))]; exact ⟨rfl, rfl⟩
          · exact all_nil
      · refine JL_pick_t rfl rfl ?_
        refine JL_move rfl ?_
        refine JL_guard_no rfl rfl ?_
        refine JL_guard_no rfl rfl ?_
        refine JL_guard_no rfl rfl ?_
        refine JL_pick_f rfl rfl ?_
        refine JL_assign rfl ?_
        refine JL_done_up 33 [] [_, _, _] rfl rfl (by simp only [nrmF]; rfl) rfl rfl ?_
        refine JC_ret ?_
        refine JE_ret (vs := [_]) [] Try.results22 ⟨rfl, rfl⟩ ?_ ?_
        · rw [show exB l = false from decide_eq_false (fun h => h26 (by omega))]; exact ⟨rfl, rfl⟩
        · exact all_nil
    · refine JL_pick_t rfl rfl ?_
      refine JL_move rfl ?_
      refine JL_guard_no rfl rfl ?_
      refine JL_guard_no rfl rfl ?_
      refine JL_guard_no rfl rfl ?_
      refine JL_pick_f rfl rfl ?_
      refine JL_move rfl ?_
      refine JL_guard_no rfl rfl ?_
      refine JL_guard_no rfl rfl ?_
      refine JL_guard_no rfl rfl ?_
      refine JL_pick_f rfl rfl ?_
      refine JL_assign rfl ?_
      refine JL_done_up 33 [] [_, _, _] rfl rfl (by simp only [nrmF]; rfl) rfl rfl ?_
      refine JC_ret ?_
      refine JE_ret (vs := [_]) [] Try.results22 ⟨rfl, rfl⟩ ?_ ?_
      · rw [show exB l = false from decide_eq_false (fun h => h21 (valE_ok h.1))]; exact ⟨rfl, rfl⟩
      · exact all_nil
  · refine JL_move rfl ?_
    refine JL_guard_no rfl rfl ?_
    refine JL_guard_no rfl rfl ?_
    refine JL_pick_f rfl rfl ?_
    refine JL_move rfl ?_
    refine JL_guard_no rfl rfl ?_
    refine JL_guard_no rfl rfl ?_
    refine JL_guard_no rfl rfl ?_
    refine JL_pick_f rfl rfl ?_
    refine JL_move rfl ?_
    refine JL_guard_no rfl rfl ?_
    refine JL_guard_no rfl rfl ?_
    refine JL_guard_no rfl rfl ?_
    refine JL_pick_f rfl rfl ?_
    refine JL_assign rfl ?_
    refine JL_done_up 33 [] [_, _, _] rfl rfl (by simp only [nrmF]; rfl) rfl rfl ?_
    refine JC_ret ?_
    refine JE_ret (vs := [_]) [] Try.results22 ⟨rfl, rfl⟩ ?_ ?_
    · rw [show exB l = false from decide_eq_false (fun h => h18 (valE_ok h.1))]; exact ⟨rfl, rfl⟩
    · exact all_nil

theorem rex_con {ad : Option Addr} {c : Nat} {l : List Pr} (hln : l.length ≤ 1000000) :
    ConF Try.prog 23 [.slice ad l.length c] [vCells ad (pcells l)]
      (fun v φo => v = .bool (exB l) ∧ φo = []) := by
  refine ConF_of Try.func23 rfl 33 _ rfl rfl ?_
  intro w0
  refine JC_norm ⟨33, [], [_, _, _, _, _, _, _, _, _, _, _, _, _, _, _, _, _, _, _, _, _, _, _, _, _, _, _, _, _, _, _, _, _]⟩ [] [_] rfl rfl rfl ?_
  refine JC_seq ?_
  refine JC_region ?_
  refine JL_assign rfl ?_
  refine JL_done_up 33 [] [_] rfl rfl (by simp only [nrmF]; rfl) rfl rfl ?_
  refine JC_seq ?_
  refine JC_region ?_
  refine JL_move rfl ?_
  refine JL_callF' (Asks.cons (holds_of_mem (by repeat (first | with_reducible exact mm0 | refine mmS ?_))) Asks.nil) (rspl_con (l := l) hln) rfl ca15 ⟨rfl, rfl⟩ ?_
  rintro _ _ ⟨ad9, c9, rfl, hc9, rfl⟩
  refine JL_move rfl ?_
  refine JL_extract rfl rfl ?_
  refine JL_extract rfl rfl ?_
  refine JL_assign rfl ?_
  refine JL_assign rfl ?_
  refine JL_done_up 33 [] [_, _] rfl rfl (by simp only [nrmF]; rfl) rfl rfl ?_
  refine JC_seq ?_
  refine JC_region ?_
  refine JL_move rfl ?_
  refine JL_callF' (Asks.cons (holds_of_mem (by repeat (first | with_reducible exact mm0 | refine mmS ?_))) Asks.nil) (rlum_con (l := l) hln) rfl ca17 ⟨rfl, rfl⟩ ?_
  rintro _ _ ⟨ad14, c14, rfl, hc14, rfl⟩
  refine JL_move rfl ?_
  refine JL_extract rfl rfl ?_
  refine JL_extract rfl rfl ?_
  refine JL_assign rfl ?_
  refine JL_assign rfl ?_
  refine JL_done_up 33 [] [_, _, _] rfl rfl (by simp only [nrmF]; rfl) rfl rfl ?_
  refine JC_seq ?_
  refine JC_region ?_
  refine JL_move rfl ?_
  refine JL_eql rfl rfl ?_
  refine JL_split (fun h18 => ?_) (fun h18 => ?_)
  · refine JL_move rfl ?_
    refine JL_guard_yes rfl rfl ?_
    refine JL_move rfl ?_
    refine JL_guard_yes rfl rfl ?_
    refine JL_eql rfl rfl ?_
    refine JL_split (fun h21 => ?_) (fun h21 => ?_)
    · refine JL_pick_t rfl rfl ?_
      refine JL_move rfl ?_
      refine JL_guard_yes rfl rfl ?_
      refine JL_move rfl ?_
      refine JL_guard_yes rfl rfl ?_
      refine JL_len sl28 rfl ?_
      refine JL_guard_yes rfl rfl ?_
      refine JL_eql rfl rfl ?_
      refine JL_split (fun h26 => ?_) (fun h26 => ?_)
      · refine JL_pick_t rfl rfl ?_
        refine JL_move rfl ?_
        refine JL_guard_yes rfl rfl ?_
        refine JL_move rfl ?_
        refine JL_guard_yes rfl rfl ?_
        refine JL_len sl28 rfl ?_
        refine JL_guard_yes rfl rfl ?_
        refine JL_eql rfl rfl ?_
        refine JL_split (fun h31 => ?_) (fun h31 => ?_)
        · refine JL_pick_t rfl rfl ?_
          refine JL_assign rfl ?_
          refine JL_done_up 33 [] [_, _, _] rfl rfl (by simp only [nrmF]; rfl) rfl rfl ?_
          refine JC_ret ?_
          refine JE_ret (vs := [_]) [] Try.results23 ⟨rfl, rfl⟩ ?_ ?_
          · rw [show exB l = true from decide_eq_true ⟨Classical.byContradiction fun h => by rw [valE_no h] at h18; exact absurd h18 (by decide), by omega, by omega⟩]; exact ⟨rfl, rfl⟩
          · exact all_nil
        · refine JL_pick_t rfl rfl ?_
          refine JL_assign rfl ?_
          refine JL_done_up 33 [] [_, _, _] rfl rfl (by simp only [nrmF]; rfl) rfl rfl ?_
          refine JC_ret ?_
          refine JE_ret (vs := [_]) [] Try.results23 ⟨rfl, rfl⟩ ?_ ?_
          · rw [show exB l = false from decide_eq_false (fun h => h31 (by omega))]; exact ⟨rfl, rfl⟩
          · exact all_nil
      · refine JL_pick_t rfl rfl ?_
        refine JL_move rfl ?_
        refine JL_guard_no rfl rfl ?_
        refine JL_guard_no rfl rfl ?_
        refine JL_guard_no rfl rfl ?_
        refine JL_pick_f rfl rfl ?_
        refine JL_assign rfl ?_
        refine JL_done_up 33 [] [_, _, _] rfl rfl (by simp only [nrmF]; rfl) rfl rfl ?_
        refine JC_ret ?_
        refine JE_ret (vs := [_]) [] Try.results23 ⟨rfl, rfl⟩ ?_ ?_
        · rw [show exB l = false from decide_eq_false (fun h => h26 (by omega))]; exact ⟨rfl, rfl⟩
        · exact all_nil
    · refine JL_pick_t rfl rfl ?_
      refine JL_move rfl ?_
      refine JL_guard_no rfl rfl ?_
      refine JL_guard_no rfl rfl ?_
      refine JL_guard_no rfl rfl ?_
      refine JL_pick_f rfl rfl ?_
      refine JL_move rfl ?_
      refine JL_guard_no rfl rfl ?_
      refine JL_guard_no rfl rfl ?_
      refine JL_guard_no rfl rfl ?_
      refine JL_pick_f rfl rfl ?_
      refine JL_assign rfl ?_
      refine JL_done_up 33 [] [_, _, _] rfl rfl (by simp only [nrmF]; rfl) rfl rfl ?_
      refine JC_ret ?_
      refine JE_ret (vs := [_]) [] Try.results23 ⟨rfl, rfl⟩ ?_ ?_
      · rw [show exB l = false from decide_eq_false (fun h => h21 (valE_ok h.1))]; exact ⟨rfl, rfl⟩
      · exact all_nil
  · refine JL_move rfl ?_
    refine JL_guard_no rfl rfl ?_
    refine JL_guard_no rfl rfl ?_
    refine JL_pick_f rfl rfl ?_
    refine JL_move rfl ?_
    refine JL_guard_no rfl rfl ?_
    refine JL_guard_no rfl rfl ?_
    refine JL_guard_no rfl rfl ?_
    refine JL_pick_f rfl rfl ?_
    refine JL_move rfl ?_
    refine JL_guard_no rfl rfl ?_
    refine JL_guard_no rfl rfl ?_
    refine JL_guard_no rfl rfl ?_
    refine JL_pick_f rfl rfl ?_
    refine JL_assign rfl ?_
    refine JL_done_up 33 [] [_, _, _] rfl rfl (by simp only [nrmF]; rfl) rfl rfl ?_
    refine JC_ret ?_
    refine JE_ret (vs := [_]) [] Try.results23 ⟨rfl, rfl⟩ ?_ ?_
    · rw [show exB l = false from decide_eq_false (fun h => h18 (valE_ok h.1))]; exact ⟨rfl, rfl⟩
    · exact all_nil

end Go.Fw.K
