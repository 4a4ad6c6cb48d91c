/- Walks through functions of the given program: each meets its contract. (Printed by a program of this repo.) -/
import Derived.Test.YtehoikaiakigfaaDoorF
import Derived.Test.YtehoikaiakigfaaDoorFrL
import Derived.Test.YtehoikaiakigfaaDoorProg
namespace Go.Fw.C1
open Go Go.RowKit Go.Proofs Go.Nat9 Go.Fw
attribute [local irreducible] JC JL JE
theorem ca24 : callable Tryd.prog 24 = true := by kernel_rfl
theorem fo48_0 : fOf Tryd.prog 48 0 = some 0 := by kernel_rfl
theorem fo48_1 : fOf Tryd.prog 48 1 = some 1 := by kernel_rfl
theorem fo48_2 : fOf Tryd.prog 48 2 = some 2 := by kernel_rfl
theorem mixed : Tryd.prog.follows .mixedOrders = true := by kernel_rfl
theorem sl22 : slOf Tryd.prog 22 = some (3, 1, 8, [.int .i64 0]) := by kernel_rfl
theorem sl45 : slOf Tryd.prog 45 = some (48, 3, 24, [.int .i64 0, .int .i64 0, .int .i64 0]) := by kernel_rfl
theorem st48 : stOf Tryd.prog 48 = some ([(0, 1), (1, 1), (2, 1)], [.int .i64 0, .int .i64 0, .int .i64 0]) := by kernel_rfl
theorem ty3 : tyOf Tryd.prog 3 = some (false, 1) := by kernel_rfl
theorem ty36 : tyOf Tryd.prog 36 = some (true, 3) := by kernel_rfl
theorem ty48 : tyOf Tryd.prog 48 = some (true, 3) := by kernel_rfl
theorem z36 : zeroOf Tryd.prog 36 = some [.bool false, .slice none 0 0, .slice none 0 0] := by kernel_rfl
theorem z48 : zeroOf Tryd.prog 48 = some [.int .i64 0, .int .i64 0, .int .i64 0] := by kernel_rfl
end Go.Fw.C1
namespace Go.Fw.K
open Go Go.RowKit Go.Proofs Go.Nat9 Go.Fw Go.Fw.C1
attribute [local irreducible] JC JL JE

theorem icheck_con {adv adw : Option Addr} {cv cw : Nat} {V W : List Int} :
    ConF Tryd.prog 16 [.slice adv V.length cv, .slice adw W.length cw] [vCells adv (i64s V), vCells adw (i64s W)]
      (fun v φo => v = .int .i64 (chk V W) ∧ φo = []) := by
  refine ConF_of Tryd.func16 rfl 51 _ rfl rfl ?_
  intro w0
  refine JC_norm ⟨51, [], [_, _, _, _, _, _, _, _, _, _, _, _, _, _, _, _, _, _, _, _, _, _, _, _, _, _, _, _, _, _, _, _, _, _, _, _, _, _, _, _, _, _, _, _, _, _, _, _, _, _, _]⟩ [] [_, _] rfl rfl rfl ?_
  refine JC_seq ?_
  refine JC_region ?_
  refine JL_assign rfl ?_
  refine JL_done_up 51 [] [_, _] rfl rfl (by simp only [nrmF]; rfl) rfl rfl ?_
  refine JC_seq ?_
  refine JC_seq ?_
  refine JC_region ?_
  refine JL_move rfl ?_
  refine JL_len sl22 rfl ?_
  refine JL_gtr rfl rfl ?_
  refine JL_split (fun h8 => ?_) (fun h8 => ?_)
  · refine JL_move rfl ?_
    refine JL_guard_no rfl rfl ?_
    refine JL_guard_no rfl rfl ?_
    refine JL_guard_no rfl rfl ?_
    refine JL_pick_t rfl rfl ?_
    refine JL_done_up 51 [] [_, _] rfl rfl (by simp only [nrmF]; rfl) rfl rfl ?_
    refine JC_true rfl ?_
    refine JC_seq ?_
    refine JC_region ?_
    refine JL_assign rfl ?_
    refine JL_done_up 51 [] [_, _] rfl rfl (by simp only [nrmF]; rfl) rfl rfl ?_
    refine JC_ret ?_
    refine JE_then_ret ?_
    refine JE_ret (vs := [_]) [] Tryd.results16 ⟨rfl, rfl⟩ ?_ ?_
    · rw [chk_full (by omega)]; exact ⟨rfl, rfl⟩
    · exact all_nil
  · refine JL_move rfl ?_
    refine JL_guard_yes rfl rfl ?_
    refine JL_move rfl ?_
    refine JL_guard_yes rfl rfl ?_
    refine JL_len sl22 rfl ?_
    refine JL_guard_yes rfl rfl ?_
    refine JL_gtr rfl rfl ?_
    refine JL_split (fun h12 => ?_) (fun h12 => ?_)
    · refine JL_pick_f rfl rfl ?_
      refine JL_done_up 51 [] [_, _] rfl rfl (by simp only [nrmF]; rfl) rfl rfl ?_
      refine JC_true rfl ?_
      refine JC_seq ?_
      refine JC_region ?_
      refine JL_assign rfl ?_
      refine JL_done_up 51 [] [_, _] rfl rfl (by simp only [nrmF]; rfl) rfl rfl ?_
      refine JC_ret ?_
      refine JE_then_ret ?_
      refine JE_ret (vs := [_]) [] Tryd.results16 ⟨rfl, rfl⟩ ?_ ?_
      · rw [chk_full (by omega)]; exact ⟨rfl, rfl⟩
      · exact all_nil
    · refine JL_pick_f rfl rfl ?_
      refine JL_done_up 51 [] [_, _] rfl rfl (by simp only [nrmF]; rfl) rfl rfl ?_
      refine JC_false rfl ?_
      refine JC_skip ?_
      refine JE_then ?_
      refine JC_seq ?_
      refine JC_seq ?_
      refine JC_region ?_
      refine JL_move rfl ?_
      refine JL_len sl22 rfl ?_
      refine JL_move rfl ?_
      refine JL_len sl22 rfl ?_
      refine JL_neq rfl rfl ?_
      refine JL_split (fun h18 => ?_) (fun h18 => ?_)
      · refine JL_done_up 51 [] [_, _] rfl rfl (by simp only [nrmF]; rfl) rfl rfl ?_
        refine JC_true rfl ?_
        refine JC_seq ?_
        refine JC_region ?_
        refine JL_assign rfl ?_
        refine JL_done_up 51 [] [_, _] rfl rfl (by simp only [nrmF]; rfl) rfl rfl ?_
        refine JC_ret ?_
        refine JE_then_ret ?_
        refine JE_ret (vs := [_]) [] Tryd.results16 ⟨rfl, rfl⟩ ?_ ?_
        · rw [chk_len (by omega) (by omega)]; exact ⟨rfl, rfl⟩
        · exact all_nil
      · refine JL_done_up 51 [] [_, _] rfl rfl (by simp only [nrmF]; rfl) rfl rfl ?_
        refine JC_false rfl ?_
        refine JC_skip ?_
        refine JE_then ?_
        refine JC_seq ?_
        refine JC_seq ?_
        refine JC_region ?_
        refine JL_move rfl ?_
        refine JL_len sl22 rfl ?_
        refine JL_move rfl ?_
        refine JL_done_up 51 [] [_, _] rfl rfl (by simp only [nrmF]; rfl) rfl rfl ?_
        refine JC_block ?_
        refine JC_loopS ((Nat)) (fun (k : Nat) => k ≤ V.length ∧ okTo V W k) (fun (k : Nat) => V.length - k) (fun u (k : Nat) => [none, none, none, none, some (u 4), some (u 5), none, none, none, none, none, none, none, none, none, none, none, none, none, none, none, some (.int .i64 (k : Nat)), some (u 22), some (u 23), some (u 24), some (u 25), some (u 26), some (u 27), some (u 28), some (u 29), some (u 30), some (u 31), some (u 32), some (u 33), some (u 34), some (u 35), some (u 36), some (u 37), some (u 38), some (u 39), some (u 40), some (u 41), some (u 42), some (u 43), some (u 44), some (u 45), some (u 46), some (u 47), some (u 48), some (u 49), some (u 50)]) (fun (k : Nat) => []) (fun (k : Nat) => []) (0) (by kernel_rfl) ?_ (by kernel_rfl) ?_ ?_
        · exact ⟨Nat.zero_le _, okTo_zero V W⟩
        · exact subset_nil
        intro u k hC
        obtain ⟨hk, hok⟩ := hC
        refine JC_norm ⟨51, [], [_, _, _, _, _, _, _, _, _, _, _, _, _, _, _, _, _, _, _, _, _, _, _, _, _, _, _, _, _, _, _, _, _, _, _, _, _, _, _, _, _, _, _, _, _, _, _, _, _, _, _]⟩ [] [_, _] rfl rfl rfl ?_
        refine JC_seq ?_
        refine JC_region ?_
        refine JL_lss rfl rfl ?_
        refine JL_split (fun h22 => ?_) (fun h22 => ?_)
        · refine JL_done_up 51 [] [_, _] rfl rfl (by simp only [nrmF]; rfl) rfl rfl ?_
          refine JC_seq ?_
          refine JC_true rfl ?_
          refine JC_skip ?_
          refine JE_then ?_
          refine JC_seq ?_
          refine JC_block ?_
          refine JC_seq ?_
          refine JC_region ?_
          refine JL_move rfl ?_
          refine JL_assign rfl ?_
          refine JL_done_up 51 [] [_, _] rfl rfl (by simp only [nrmF]; rfl) rfl rfl ?_
          refine JC_seq ?_
          refine JC_region ?_
          refine JL_move rfl ?_
          refine JL_move rfl ?_
          refine JL_idx k sl22 rfl rfl rfl (by omega) (by first | exact Reads.view (by repeat (first | with_reducible exact mm0 | refine mmS ?_))) (by first | (rw [u32s_length]; omega) | (rw [i64s_length]; omega)) ?_
          refine JL_loadE ty3 rfl (by first | exact Reads.view (by repeat (first | with_reducible exact mm0 | refine mmS ?_))) (i64s_get (by omega)) ?_
          refine JL_lss rfl rfl ?_
          refine JL_split (fun h28 => ?_) (fun h28 => ?_)
          · refine JL_move rfl ?_
            refine JL_guard_no rfl rfl ?_
            refine JL_guard_no rfl rfl ?_
            refine JL_guard_no rfl rfl ?_
            refine JL_guard_no rfl rfl ?_
            refine JL_guard_no rfl rfl ?_
            refine JL_pick_t rfl rfl ?_
            refine JL_move rfl ?_
            refine JL_guard_no rfl rfl ?_
            refine JL_guard_no rfl rfl ?_
            refine JL_guard_no rfl rfl ?_
            refine JL_guard_no rfl rfl ?_
            refine JL_guard_no rfl rfl ?_
            refine JL_pick_t rfl rfl ?_
            refine JL_move rfl ?_
            refine JL_guard_no rfl rfl ?_
            refine JL_guard_no rfl rfl ?_
            refine JL_guard_no rfl rfl ?_
            refine JL_guard_no rfl rfl ?_
            refine JL_guard_no rfl rfl ?_
            refine JL_pick_t rfl rfl ?_
            refine JL_done_up 51 [] [_, _] rfl rfl (by simp only [nrmF]; rfl) rfl rfl ?_
            refine JC_true rfl ?_
            refine JC_seq ?_
            refine JC_region ?_
            refine JL_assign rfl ?_
            refine JL_done_up 51 [] [_, _] rfl rfl (by simp only [nrmF]; rfl) rfl rfl ?_
            refine JC_ret ?_
            refine JE_block_ret ?_
            refine JE_then_ret ?_
            refine JE_nextS_ret ?_
            refine JE_block_ret ?_
            refine JE_then_ret ?_
            have hbad : ¬ okAt V W k := fun h => by obtain ⟨a, b, c, d⟩ := h; omega
            refine JE_ret (vs := [_]) [] Tryd.results16 ⟨rfl, rfl⟩ ?_ ?_
            · rw [chk_bad (by omega) (by omega) (i := k) (by omega) hbad]; exact ⟨rfl, rfl⟩
            · exact all_nil
          · refine JL_move rfl ?_
            refine JL_guard_yes rfl rfl ?_
            refine JL_move rfl ?_
            refine JL_guard_yes rfl rfl ?_
            refine JL_move rfl ?_
            refine JL_guard_yes rfl rfl ?_
            refine JL_idx k sl22 rfl rfl rfl (by omega) (by first | exact Reads.view (by repeat (first | with_reducible exact mm0 | refine mmS ?_))) (by first | (rw [u32s_length]; omega) | (rw [i64s_length]; omega)) ?_
            refine JL_guard_yes rfl rfl ?_
            refine JL_loadE ty3 rfl (by first | exact Reads.view (by repeat (first | with_reducible exact mm0 | refine mmS ?_))) (i64s_get (by omega)) ?_
            refine JL_guard_yes rfl rfl ?_
            refine JL_gtr rfl rfl ?_
            refine JL_split (fun h34 => ?_) (fun h34 => ?_)
            · refine JL_pick_f rfl rfl ?_
              refine JL_move rfl ?_
              refine JL_guard_no rfl rfl ?_
              refine JL_guard_no rfl rfl ?_
              refine JL_guard_no rfl rfl ?_
              refine JL_guard_no rfl rfl ?_
              refine JL_guard_no rfl rfl ?_
              refine JL_pick_t rfl rfl ?_
              refine JL_move rfl ?_
              refine JL_guard_no rfl rfl ?_
              refine JL_guard_no rfl rfl ?_
              refine JL_guard_no rfl rfl ?_
              refine JL_guard_no rfl rfl ?_
              refine JL_guard_no rfl rfl ?_
              refine JL_pick_t rfl rfl ?_
              refine JL_done_up 51 [] [_, _] rfl rfl (by simp only [nrmF]; rfl) rfl rfl ?_
              refine JC_true rfl ?_
              refine JC_seq ?_
              refine JC_region ?_
              refine JL_assign rfl ?_
              refine JL_done_up 51 [] [_, _] rfl rfl (by simp only [nrmF]; rfl) rfl rfl ?_
              refine JC_ret ?_
              refine JE_block_ret ?_
              refine JE_then_ret ?_
              refine JE_nextS_ret ?_
              refine JE_block_ret ?_
              refine JE_then_ret ?_
              have hbad : ¬ okAt V W k := fun h => by obtain ⟨a, b, c, d⟩ := h; omega
              refine JE_ret (vs := [_]) [] Tryd.results16 ⟨rfl, rfl⟩ ?_ ?_
              · rw [chk_bad (by omega) (by omega) (i := k) (by omega) hbad]; exact ⟨rfl, rfl⟩
              · exact all_nil
            · refine JL_pick_f rfl rfl ?_
              refine JL_move rfl ?_
              refine JL_guard_yes rfl rfl ?_
              refine JL_move rfl ?_
              refine JL_guard_yes rfl rfl ?_
              refine JL_move rfl ?_
              refine JL_guard_yes rfl rfl ?_
              refine JL_idx k sl22 rfl rfl rfl (by omega) (by first | exact Reads.view (by repeat (first | with_reducible exact mm0 | refine mmS ?_))) (by first | (rw [u32s_length]; omega) | (rw [i64s_length]; omega)) ?_
              refine JL_guard_yes rfl rfl ?_
              refine JL_loadE ty3 rfl (by first | exact Reads.view (by repeat (first | with_reducible exact mm0 | refine mmS ?_))) (i64s_get (by omega)) ?_
              refine JL_guard_yes rfl rfl ?_
              refine JL_lss rfl rfl ?_
              refine JL_split (fun h41 => ?_) (fun h41 => ?_)
              · refine JL_pick_f rfl rfl ?_
                refine JL_move rfl ?_
                refine JL_guard_no rfl rfl ?_
                refine JL_guard_no rfl rfl ?_
                refine JL_guard_no rfl rfl ?_
                refine JL_guard_no rfl rfl ?_
                refine JL_guard_no rfl rfl ?_
                refine JL_pick_t rfl rfl ?_
                refine JL_done_up 51 [] [_, _] rfl rfl (by simp only [nrmF]; rfl) rfl rfl ?_
                refine JC_true rfl ?_
                refine JC_seq ?_
                refine JC_region ?_
                refine JL_assign rfl ?_
                refine JL_done_up 51 [] [_, _] rfl rfl (by simp only [nrmF]; rfl) rfl rfl ?_
                refine JC_ret ?_
                refine JE_block_ret ?_
                refine JE_then_ret ?_
                refine JE_nextS_ret ?_
                refine JE_block_ret ?_
                refine JE_then_ret ?_
                have hbad : ¬ okAt V W k := fun h => by obtain ⟨a, b, c, d⟩ := h; omega
                refine JE_ret (vs := [_]) [] Tryd.results16 ⟨rfl, rfl⟩ ?_ ?_
                · rw [chk_bad (by omega) (by omega) (i := k) (by omega) hbad]; exact ⟨rfl, rfl⟩
                · exact all_nil
              · refine JL_pick_f rfl rfl ?_
                refine JL_move rfl ?_
                refine JL_guard_yes rfl rfl ?_
                refine JL_move rfl ?_
                refine JL_guard_yes rfl rfl ?_
                refine JL_move rfl ?_
                refine JL_guard_yes rfl rfl ?_
                refine JL_idx k sl22 rfl rfl rfl (by omega) (by first | exact Reads.view (by repeat (first | with_reducible exact mm0 | refine mmS ?_))) (by first | (rw [u32s_length]; omega) | (rw [i64s_length]; omega)) ?_
                refine JL_guard_yes rfl rfl ?_
                refine JL_loadE ty3 rfl (by first | exact Reads.view (by repeat (first | with_reducible exact mm0 | refine mmS ?_))) (i64s_get (by omega)) ?_
                refine JL_guard_yes rfl rfl ?_
                refine JL_gtr rfl rfl ?_
                refine JL_split (fun h48 => ?_) (fun h48 => ?_)
                · refine JL_pick_f rfl rfl ?_
                  refine JL_done_up 51 [] [_, _] rfl rfl (by simp only [nrmF]; rfl) rfl rfl ?_
                  refine JC_true rfl ?_
                  refine JC_seq ?_
                  refine JC_region ?_
                  refine JL_assign rfl ?_
                  refine JL_done_up 51 [] [_, _] rfl rfl (by simp only [nrmF]; rfl) rfl rfl ?_
                  refine JC_ret ?_
                  refine JE_block_ret ?_
                  refine JE_then_ret ?_
                  refine JE_nextS_ret ?_
                  refine JE_block_ret ?_
                  refine JE_then_ret ?_
                  have hbad : ¬ okAt V W k := fun h => by obtain ⟨a, b, c, d⟩ := h; omega
                  refine JE_ret (vs := [_]) [] Tryd.results16 ⟨rfl, rfl⟩ ?_ ?_
                  · rw [chk_bad (by omega) (by omega) (i := k) (by omega) hbad]; exact ⟨rfl, rfl⟩
                  · exact all_nil
                · refine JL_pick_f rfl rfl ?_
                  refine JL_done_up 51 [] [_, _] rfl rfl (by simp only [nrmF]; rfl) rfl rfl ?_
                  refine JC_false rfl ?_
                  refine JC_skip ?_
                  refine JE_block_normal ?_
                  refine JE_then ?_
                  refine JC_region ?_
                  refine JL_add_to rfl rfl (IntWalk.i64_in _ (by omega)) ?_
                  refine JL_move rfl ?_
                  refine JL_nil_up 51 [] [_, _] rfl rfl (by simp only [nrmF]; rfl) rfl rfl ?_
                  refine JE_nextS (k + 1) (by kernel_rfl) ?_ ?_ (by kernel_rfl) ?_
                  · exact ⟨by omega, hok.succ ⟨by omega, by omega, by omega, by omega⟩⟩
                  · first | omega | (dsimp only; omega)
                  · exact subset_app subset_nil ss0
        · refine JL_done_up 51 [] [_, _] rfl rfl (by simp only [nrmF]; rfl) rfl rfl ?_
          refine JC_seq ?_
          refine JC_false rfl ?_
          refine JC_exit ?_
          refine JE_then_exit ?_
          refine JE_nextS_exit ?_
          refine JE_block_exit ?_
          refine JE_then ?_
          refine JC_seq ?_
          refine JC_region ?_
          refine JL_assign rfl ?_
          refine JL_done_up 51 [] [_, _] rfl rfl (by simp only [nrmF]; rfl) rfl rfl ?_
          refine JC_ret ?_
          refine JE_ret (vs := [_]) [] Tryd.results16 ⟨rfl, rfl⟩ ?_ ?_
          · rw [chk_ok (by omega) (by omega) (fun i hi => hok i (by omega))]; exact ⟨rfl, rfl⟩
          · exact all_nil

theorem imean_con {z s w : Int} (hs1 : -24000000000 ≤ s) (hs2 : s ≤ 24000000000) (hw1 : 1 ≤ w) (hw2 : w ≤ 24000) :
    ConF Tryd.prog 18 [.agg #[.int .i64 z, .int .i64 s, .int .i64 w]] []
      (FO (some (ofq s w))) := by
  refine ConF_of Tryd.func18 rfl 8 _ rfl rfl ?_
  intro w0
  refine JC_norm ⟨8, [], [_, _, _, _, _, _, _, _]⟩ [] [] rfl rfl rfl ?_
  refine JC_seq ?_
  refine JC_region ?_
  refine JL_box rfl rfl (fun b1 => ?_)
  refine JL_alloc z36 (fun b2 => ?_)
  refine JL_done_up 8 [box _ _ [_, _, _], box _ _ [_, _, _]] [] rfl rfl (by simp only [nrmF]; rfl) rfl rfl ?_
  refine JC_seq ?_
  refine JC_region ?_
  refine JL_fieldAddr fo48_1 rfl ?_
  refine JL_load 0 ty3 rfl rfl rfl ?_
  refine JL_fieldAddr fo48_2 rfl ?_
  refine JL_load 0 ty3 rfl rfl rfl ?_
  refine JL_callF' Asks.nil (fofi_con s w (by omega) (by omega)) rfl ca24 ⟨rfl, rfl, rfl⟩ ?_
  rintro _ _ ⟨ad7, cp7, be7, ce7, rfl, rfl⟩
  refine JL_store (vs := [_, _, _]) 1 ty36 rfl rfl rfl (AllOne.cons rfl (AllOne.cons rfl (AllOne.cons rfl AllOne.nil))) rfl (Nat.le_of_ble_eq_true rfl) ?_
  refine JL_done_up 8 [box _ _ [_, _, _], box _ _ [_, _, _]] [_, _] rfl rfl (by simp only [nrmF]; rfl) rfl rfl ?_
  refine JC_ret ?_
  refine JE_ret (vs := [_]) [vCells ad7 (u32s (fnum (some (ofq s w)))), vCells be7 (u32s (fden (some (ofq s w))))] Tryd.results18 ⟨RV.cell (vs := [_, _, _]) 1 ty36 rfl rfl ⟨rfl, rfl, rfl, trivial⟩, rfl⟩ ?_ ?_
  · exact ⟨ad7, cp7, be7, ce7, rfl, rfl⟩
  · exact (all_cons (by repeat (first | with_reducible exact mm0 | refine mmS ?_)) (all_cons (by repeat (first | with_reducible exact mm0 | refine mmS ?_)) all_nil))

set_option maxHeartbeats 1000000 in
theorem iblocks_con {adv adw : Option Addr} {cv cw : Nat} {V W : List Int} (hz : chk V W = 0) :
    ConF Tryd.prog 17 [.slice adv V.length cv, .slice adw W.length cw] [vCells adv (i64s V), vCells adw (i64s W)]
      (BLS V W) := by
  obtain ⟨hn, hvw, hok⟩ := chk_zero hz
  refine ConF_of Tryd.func17 rfl 99 _ rfl rfl ?_
  intro w0
  refine JC_norm ⟨99, [], [_, _, _, _, _, _, _, _, _, _, _, _, _, _, _, _, _, _, _, _, _, _, _, _, _, _, _, _, _, _, _, _, _, _, _, _, _, _, _, _, _, _, _, _, _, _, _, _, _, _, _, _, _, _, _, _, _, _, _, _, _, _, _, _, _, _, _, _, _, _, _, _, _, _, _, _, _, _, _, _, _, _, _, _, _, _, _, _, _, _, _, _, _, _, _, _, _, _, _]⟩ [] [_, _] rfl rfl rfl ?_
  refine JC_seq ?_
  refine JC_region ?_
  refine JL_assign rfl ?_
  refine JL_done_up 99 [] [_, _] rfl rfl (by simp only [nrmF]; rfl) rfl rfl ?_
  refine JC_seq ?_
  refine JC_region ?_
  refine JL_assign rfl ?_
  refine JL_done_up 99 [] [_, _] rfl rfl (by simp only [nrmF]; rfl) rfl rfl ?_
  refine JC_seq ?_
  refine JC_seq ?_
  refine JC_region ?_
  refine JL_move rfl ?_
  refine JL_len sl22 rfl ?_
  refine JL_move rfl ?_
  refine JL_done_up 99 [] [_, _] rfl rfl (by simp only [nrmF]; rfl) rfl rfl ?_
  refine JC_block ?_
  refine JC_addNil 48 3 ?_
  refine JC_norm ⟨99, [], [_, _, _, _, _, _, _, _, _, _, _, _, _, _, _, _, _, _, _, _, _, _, _, _, _, _, _, _, _, _, _, _, _, _, _, _, _, _, _, _, _, _, _, _, _, _, _, _, _, _, _, _, _, _, _, _, _, _, _, _, _, _, _, _, _, _, _, _, _, _, _, _, _, _, _, _, _, _, _, _, _, _, _, _, _, _, _, _, _, _, _, _, _, _, _, _, _, _, _]⟩ [osl _ _ _ _ _ _] [_, _] rfl rfl rfl ?_
  refine JC_loopS ((Nat) × (List Blk) × (Option Addr) × (Nat)) (fun (k, S, ad, cap) => k ≤ V.length ∧ S = blkR V W k) (fun (k, S, ad, cap) => V.length - k) (fun u (k, S, ad, cap) => [none, none, none, none, none, some (.slice ad S.length cap), some (u 6), some (u 7), some (u 8), some (u 9), none, none, some (.int .i64 (k : Nat)), some (u 13), some (u 14), some (u 15), some (u 16), some (u 17), some (u 18), some (u 19), some (u 20), some (u 21), some (u 22), some (u 23), some (u 24), some (u 25), some (u 26), some (u 27), some (u 28), some (u 29), some (u 30), some (u 31), some (u 32), some (u 33), some (u 34), some (u 35), some (u 36), some (u 37), some (u 38), some (u 39), some (u 40), some (u 41), some (u 42), some (u 43), some (u 44), some (u 45), some (u 46), some (u 47), some (u 48), some (u 49), some (u 50), some (u 51), some (u 52), some (u 53), some (u 54), some (u 55), some (u 56), some (u 57), some (u 58), some (u 59), some (u 60), some (u 61), some (u 62), some (u 63), some (u 64), some (u 65), some (u 66), some (u 67), some (u 68), some (u 69), some (u 70), some (u 71), some (u 72), some (u 73), some (u 74), some (u 75), some (u 76), some (u 77), some (u 78), some (u 79), some (u 80), some (u 81), some (u 82), some (u 83), some (u 84), some (u 85), some (u 86), some (u 87), some (u 88), some (u 89), some (u 90), some (u 91), some (u 92), some (u 93), some (u 94), some (u 95), some (u 96), some (u 97), none]) (fun (k, S, ad, cap) => [some (osl ad S.length cap 48 3 (bcells S.reverse))]) (fun (k, S, ad, cap) => []) (0, [], none, 0) (by kernel_rfl) ?_ (by kernel_rfl) ?_ ?_
  · exact ⟨Nat.zero_le _, rfl⟩
  · exact subset_nil
  intro u i hC
  obtain ⟨k, S, ad, cap⟩ := i
  obtain ⟨hk, hS⟩ := hC
  refine JC_norm ⟨99, [], [_, _, _, _, _, _, _, _, _, _, _, _, _, _, _, _, _, _, _, _, _, _, _, _, _, _, _, _, _, _, _, _, _, _, _, _, _, _, _, _, _, _, _, _, _, _, _, _, _, _, _, _, _, _, _, _, _, _, _, _, _, _, _, _, _, _, _, _, _, _, _, _, _, _, _, _, _, _, _, _, _, _, _, _, _, _, _, _, _, _, _, _, _, _, _, _, _, _, _]⟩ [osl _ _ _ _ _ _] [_, _] rfl rfl rfl ?_
  refine JC_seq ?_
  refine JC_region ?_
  refine JL_lss rfl rfl ?_
  refine JL_split (fun h13 => ?_) (fun h13 => ?_)
  · refine JL_done_up 99 [osl _ _ _ _ _ _] [_, _] rfl rfl (by simp only [nrmF]; rfl) rfl rfl ?_
    refine JC_seq ?_
    refine JC_true rfl ?_
    refine JC_skip ?_
    refine JE_then ?_
    refine JC_seq ?_
    refine JC_block ?_
    refine JC_seq ?_
    refine JC_region ?_
    refine JL_move rfl ?_
    refine JL_assign rfl ?_
    refine JL_done_up 99 [osl _ _ _ _ _ _] [_, _] rfl rfl (by simp only [nrmF]; rfl) rfl rfl ?_
    refine JC_seq ?_
    have hka := hok k (by omega)
    have hmu := mul_in (A := 1000000) (B := 1000) (by have := hka.1; omega) hka.2.1 (by have := hka.2.2.1; omega) hka.2.2.2 (by omega)
    have hB := bnd_blkR (V := V) (W := W) (n := k) (fun i hi => hok i (by omega))
    rw [← hS] at hB
    have hSl := hB.len
    refine JC_drawT mixed 16 [spV 15 [] _, spV 16 [] _, spV 17 [] _, spV 18 [1, 2] _, spV 19 [3] _, spV 20 [] _, spV 21 [] _, spV 22 [5, 6] _, spV 23 [7] _, spV 24 [4, 8] _, spV 25 [] _, spV 26 [] _, spV 27 [10, 11] _, spV 28 [12] _, spV 29 [9, 13] (.agg #[.int .i64 1, .int .i64 (V.getD k 0 * W.getD k 0), .int .i64 (W.getD k 0)]), spC 30 [14] (fun v φo => ∃ g : Nat, v = .slice (some ⟨g, 0, none⟩) 1 1 ∧ φo = [vCells (some ⟨g, 0, none⟩) [.int .i64 1, .int .i64 (V.getD k 0 * W.getD k 0), .int .i64 (W.getD k 0)]])] ⟨OblS_V (fun vals ex ψ => (by
        refine JL_normQ ⟨99, [(15, _), (16, _), (17, _), (18, _), (19, _), (20, _), (21, _), (22, _), (23, _), (24, _), (25, _), (26, _), (27, _), (28, _), (29, _), (30, _)], _⟩ (_ :: _ :: ψ) rfl rfl ?_
        refine JL_move rfl ?_
        exact JL_nil (JE_stepV rfl ss0))), OblS_V (fun vals ex ψ => (by
        refine JL_normQ ⟨99, [(15, _), (16, _), (17, _), (18, _), (19, _), (20, _), (21, _), (22, _), (23, _), (24, _), (25, _), (26, _), (27, _), (28, _), (29, _), (30, _)], _⟩ (_ :: _ :: ψ) rfl rfl ?_
        refine JL_move rfl ?_
        exact JL_nil (JE_stepV rfl ss0))), OblS_V (fun vals ex ψ => (by
        refine JL_normQ ⟨99, [(15, _), (16, _), (17, _), (18, _), (19, _), (20, _), (21, _), (22, _), (23, _), (24, _), (25, _), (26, _), (27, _), (28, _), (29, _), (30, _)], _⟩ (_ :: _ :: ψ) rfl rfl ?_
        refine JL_move rfl ?_
        exact JL_nil (JE_stepV rfl ss0))), OblS_V (fun vals ex ψ => (by
        refine JL_normQ ⟨99, [(15, _), (16, _), (17, _), (18, _), (19, _), (20, _), (21, _), (22, _), (23, _), (24, _), (25, _), (26, _), (27, _), (28, _), (29, _), (30, _)], _⟩ (_ :: _ :: ψ) rfl rfl ?_
        refine JL_idx k sl22 rfl rfl rfl (by omega) (by first | exact Reads.view (by repeat (first | with_reducible exact mm0 | refine mmS ?_)) | (exact Reads.own 0 rfl)) (by first | (rw [u32s_length]; omega) | (rw [i64s_length]; omega)) ?_
        exact JL_nil (JE_stepV rfl ss0))), OblS_V (fun vals ex ψ => (by
        refine JL_normQ ⟨99, [(15, _), (16, _), (17, _), (18, _), (19, _), (20, _), (21, _), (22, _), (23, _), (24, _), (25, _), (26, _), (27, _), (28, _), (29, _), (30, _)], _⟩ (_ :: _ :: ψ) rfl rfl ?_
        refine JL_loadE ty3 rfl (by first | exact Reads.view (by repeat (first | with_reducible exact mm0 | refine mmS ?_)) | (exact Reads.own 0 rfl)) (i64s_get (by omega)) ?_
        exact JL_nil (JE_stepV rfl ss0))), OblS_V (fun vals ex ψ => (by
        refine JL_normQ ⟨99, [(15, _), (16, _), (17, _), (18, _), (19, _), (20, _), (21, _), (22, _), (23, _), (24, _), (25, _), (26, _), (27, _), (28, _), (29, _), (30, _)], _⟩ (_ :: _ :: ψ) rfl rfl ?_
        refine JL_move rfl ?_
        exact JL_nil (JE_stepV rfl ss0))), OblS_V (fun vals ex ψ => (by
        refine JL_normQ ⟨99, [(15, _), (16, _), (17, _), (18, _), (19, _), (20, _), (21, _), (22, _), (23, _), (24, _), (25, _), (26, _), (27, _), (28, _), (29, _), (30, _)], _⟩ (_ :: _ :: ψ) rfl rfl ?_
        refine JL_move rfl ?_
        exact JL_nil (JE_stepV rfl ss0))), OblS_V (fun vals ex ψ => (by
        refine JL_normQ ⟨99, [(15, _), (16, _), (17, _), (18, _), (19, _), (20, _), (21, _), (22, _), (23, _), (24, _), (25, _), (26, _), (27, _), (28, _), (29, _), (30, _)], _⟩ (_ :: _ :: ψ) rfl rfl ?_
        refine JL_idx k sl22 rfl rfl rfl (by omega) (by first | exact Reads.view (by repeat (first | with_reducible exact mm0 | refine mmS ?_)) | (exact Reads.own 0 rfl)) (by first | (rw [u32s_length]; omega) | (rw [i64s_length]; omega)) ?_
        exact JL_nil (JE_stepV rfl ss0))), OblS_V (fun vals ex ψ => (by
        refine JL_normQ ⟨99, [(15, _), (16, _), (17, _), (18, _), (19, _), (20, _), (21, _), (22, _), (23, _), (24, _), (25, _), (26, _), (27, _), (28, _), (29, _), (30, _)], _⟩ (_ :: _ :: ψ) rfl rfl ?_
        refine JL_loadE ty3 rfl (by first | exact Reads.view (by repeat (first | with_reducible exact mm0 | refine mmS ?_)) | (exact Reads.own 0 rfl)) (i64s_get (by omega)) ?_
        exact JL_nil (JE_stepV rfl ss0))), OblS_V (fun vals ex ψ => (by
        refine JL_normQ ⟨99, [(15, _), (16, _), (17, _), (18, _), (19, _), (20, _), (21, _), (22, _), (23, _), (24, _), (25, _), (26, _), (27, _), (28, _), (29, _), (30, _)], _⟩ (_ :: _ :: ψ) rfl rfl ?_
        refine JL_mul_to rfl rfl (IntWalk.i64_in _ (by omega)) ?_
        exact JL_nil (JE_stepV rfl ss0))), OblS_V (fun vals ex ψ => (by
        refine JL_normQ ⟨99, [(15, _), (16, _), (17, _), (18, _), (19, _), (20, _), (21, _), (22, _), (23, _), (24, _), (25, _), (26, _), (27, _), (28, _), (29, _), (30, _)], _⟩ (_ :: _ :: ψ) rfl rfl ?_
        refine JL_move rfl ?_
        exact JL_nil (JE_stepV rfl ss0))), OblS_V (fun vals ex ψ => (by
        refine JL_normQ ⟨99, [(15, _), (16, _), (17, _), (18, _), (19, _), (20, _), (21, _), (22, _), (23, _), (24, _), (25, _), (26, _), (27, _), (28, _), (29, _), (30, _)], _⟩ (_ :: _ :: ψ) rfl rfl ?_
        refine JL_move rfl ?_
        exact JL_nil (JE_stepV rfl ss0))), OblS_V (fun vals ex ψ => (by
        refine JL_normQ ⟨99, [(15, _), (16, _), (17, _), (18, _), (19, _), (20, _), (21, _), (22, _), (23, _), (24, _), (25, _), (26, _), (27, _), (28, _), (29, _), (30, _)], _⟩ (_ :: _ :: ψ) rfl rfl ?_
        refine JL_idx k sl22 rfl rfl rfl (by omega) (by first | exact Reads.view (by repeat (first | with_reducible exact mm0 | refine mmS ?_)) | (exact Reads.own 0 rfl)) (by first | (rw [u32s_length]; omega) | (rw [i64s_length]; omega)) ?_
        exact JL_nil (JE_stepV rfl ss0))), OblS_V (fun vals ex ψ => (by
        refine JL_normQ ⟨99, [(15, _), (16, _), (17, _), (18, _), (19, _), (20, _), (21, _), (22, _), (23, _), (24, _), (25, _), (26, _), (27, _), (28, _), (29, _), (30, _)], _⟩ (_ :: _ :: ψ) rfl rfl ?_
        refine JL_loadE ty3 rfl (by first | exact Reads.view (by repeat (first | with_reducible exact mm0 | refine mmS ?_)) | (exact Reads.own 0 rfl)) (i64s_get (by omega)) ?_
        exact JL_nil (JE_stepV rfl ss0))), OblS_V (fun vals ex ψ => (by
        refine JL_normQ ⟨99, [(15, _), (16, _), (17, _), (18, _), (19, _), (20, _), (21, _), (22, _), (23, _), (24, _), (25, _), (26, _), (27, _), (28, _), (29, _), (30, _)], _⟩ (_ :: _ :: ψ) rfl rfl ?_
        refine JL_build (cs := [_, _, _]) [(0, [_]), (1, [_]), (2, [_])] st48 ⟨⟨rfl, _, rfl, rfl⟩, ⟨rfl, _, rfl, rfl⟩, ⟨rfl, _, rfl, rfl⟩, rfl⟩ rfl ?_
        exact JL_nil (JE_stepV rfl ss0))), OblS_C (fun vals ex ψ => (by
        refine JL_normQ ⟨99, [(15, _), (16, _), (17, _), (18, _), (19, _), (20, _), (21, _), (22, _), (23, _), (24, _), (25, _), (26, _), (27, _), (28, _), (29, _), (30, _)], _⟩ (_ :: _ :: ψ) rfl rfl ?_
        refine JL_buildN (cs0 := [.int .i64 0, .int .i64 0, .int .i64 0]) (cs := [_, _, _]) [(0, [_, _, _])] sl45 (by kernel_rfl) ⟨⟨rfl, _, rfl, rfl⟩, rfl⟩ rfl rfl rfl rfl (fun g30 => ?_)
        refine JL_giveLast ?_
        exact JL_nil (JE_stepC [vCells (some ⟨g30, 0, none⟩) [.int .i64 1, .int .i64 (V.getD k 0 * W.getD k 0), .int .i64 (W.getD k 0)]] rfl ⟨g30, rfl, rfl⟩ (all_cons (by repeat (first | with_reducible exact mm0 | refine mmS ?_)) all_nil) (ssS ss0)))), trivial⟩ (by kernel_rfl) (fun vals bs => ?_)
    refine JL_normL [_, _] ⟨99, [(15, _), (16, _), (17, _), (18, _), (19, _), (20, _), (21, _), (22, _), (23, _), (24, _), (25, _), (26, _), (27, _), (28, _), (29, _), (30, _)], _⟩ [osl _ _ _ _ _ _] [_, _, _] rfl rfl rfl rfl ?_
    generalize vals (0 + 1 + 1 + 1 + 1 + 1 + 1 + 1 + 1 + 1 + 1 + 1 + 1 + 1 + 1 + 1) = x30
    refine JL_usePost mm0 (fun φo hP => ?_)
    obtain ⟨g30, rfl, rfl⟩ := hP
    refine JL_norm _ [osl _ _ _ _ _ _] [_, _, _, _] rfl rfl rfl ?_
    refine JL_append (news := [_, _, _]) 0 sl45 rfl (by decide) rfl rfl rfl rfl (Reads.view (by repeat (first | with_reducible exact mm0 | refine mmS ?_))) (AllOne.cons rfl (AllOne.cons rfl (AllOne.cons rfl AllOne.nil))) (by omega) (by omega) (fun ad31 cap31 hc31 => ?_)
    refine JL_norm _ [osl _ _ _ _ _ _] [_, _, _, _] rfl rfl rfl ?_
    rw [show bcells S.reverse ++ [.int .i64 1, .int .i64 (V.getD k 0 * W.getD k 0), .int .i64 (W.getD k 0)] = bcells (at1 V W k :: S).reverse from bcells_snoc S (at1 V W k)]
    refine JL_assign rfl ?_
    refine JL_done_up 99 [osl _ _ _ _ _ _] [_, _, _, _] rfl rfl (by simp only [nrmF]; rfl) rfl rfl ?_
    refine JC_seq ?_
    refine JC_region ?_
    refine JL_move rfl ?_
    refine JL_len sl45 rfl ?_
    refine JL_sub_to rfl rfl (IntWalk.i64_in _ (by omega)) ?_
    rw [show (((S.length + 1 : Nat) : Int) - 1 : Int) = (S.length : Int) from by omega]
    refine JL_assign rfl ?_
    refine JL_done_up 99 [osl _ _ _ _ _ _] [_, _, _, _] rfl rfl (by simp only [nrmF]; rfl) rfl rfl ?_
    refine JC_block ?_
    refine JC_loopS ((List Blk) × (Blk) × (Option Addr) × (Nat)) (fun (T, t, ad1, cap1) => pushB T t = blkR V W (k + 1) ∧ Bnd (k + 1) (t :: T) ∧ T.length + 1 ≤ cap1) (fun (T, t, ad1, cap1) => T.length) (fun u (T, t, ad1, cap1) => [none, none, none, none, none, some (.slice ad1 (T.length + 1) cap1), none, some (.int .i64 (T.length : Nat)), some (u 8), some (u 9), none, none, none, none, none, none, none, none, none, none, none, none, none, none, none, none, none, none, none, none, none, none, none, none, none, some (u 35), some (u 36), some (u 37), some (u 38), some (u 39), some (u 40), some (u 41), some (u 42), some (u 43), some (u 44), some (u 45), some (u 46), some (u 47), some (u 48), some (u 49), some (u 50), some (u 51), some (u 52), some (u 53), some (u 54), some (u 55), some (u 56), some (u 57), some (u 58), some (u 59), some (u 60), some (u 61), some (u 62), some (u 63), some (u 64), some (u 65), some (u 66), some (u 67), some (u 68), some (u 69), some (u 70), some (u 71), some (u 72), some (u 73), some (u 74), some (u 75), some (u 76), some (u 77), some (u 78), some (u 79), some (u 80), some (u 81), some (u 82), some (u 83), some (u 84), some (u 85), some (u 86), some (u 87), some (u 88), some (u 89), some (u 90), some (u 91), some (u 92), some (u 93), some (u 94), some (u 95), some (u 96), none, none]) (fun (T, t, ad1, cap1) => [some (osl ad1 (T.length + 1) cap1 48 3 (bcells (t :: T).reverse))]) (fun (T, t, ad1, cap1) => []) (S, at1 V W k, ad31, cap31) (by kernel_rfl) ?_ (by kernel_rfl) ?_ ?_
    · exact ⟨by rw [hS]; rfl, hB.cons hka, hc31.1⟩
    · exact subset_nil
    intro u i hC
    obtain ⟨T, t, ad1, cap1⟩ := i
    obtain ⟨hp, hT, hcap⟩ := hC
    refine JC_norm ⟨99, [], [_, _, _, _, _, _, _, _, _, _, _, _, _, _, _, _, _, _, _, _, _, _, _, _, _, _, _, _, _, _, _, _, _, _, _, _, _, _, _, _, _, _, _, _, _, _, _, _, _, _, _, _, _, _, _, _, _, _, _, _, _, _, _, _, _, _, _, _, _, _, _, _, _, _, _, _, _, _, _, _, _, _, _, _, _, _, _, _, _, _, _, _, _, _, _, _, _, _, _]⟩ [osl _ _ _ _ _ _] [_, _, _, _] rfl rfl rfl ?_
    refine JC_seq ?_
    refine JC_seq ?_
    rcases T with _ | ⟨a, T⟩
    · refine JC_drawT mixed 27 [spV 35 [] _, spV 36 [0] _, spV 37 [1] _, spV 38 [2] _, spV 39 [2] _, spV 40 [2, 4] _, spV 41 [2, 3, 5] _, spV 42 [2, 6] _, spV 43 [2, 7] _, spV 44 [2] _, spV 45 [2] _, spV 46 [2, 9, 10] _, spV 47 [2, 11] _, spV 48 [2, 12] _, spV 49 [2, 8, 13] _, spV 50 [2] _, spV 51 [2] _, spV 52 [2, 15, 16] _, spV 53 [2, 17] _, spV 54 [2, 18] _, spV 55 [2] _, spV 56 [2] _, spV 57 [2, 21] _, spV 58 [2, 20, 22] _, spV 59 [2, 23] _, spV 60 [2, 24] _, spV 61 [2, 19, 25] _] ⟨OblS_V (fun vals ex ψ => (by
          refine JL_normQ ⟨99, [(35, _), (36, _), (37, _), (38, _), (39, _), (40, _), (41, _), (42, _), (43, _), (44, _), (45, _), (46, _), (47, _), (48, _), (49, _), (50, _), (51, _), (52, _), (53, _), (54, _), (55, _), (56, _), (57, _), (58, _), (59, _), (60, _), (61, _)], _⟩ (_ :: _ :: _ :: _ :: ψ) rfl rfl ?_
          refine JL_move rfl ?_
          exact JL_nil (JE_stepV rfl ss0))), OblS_V (fun vals ex ψ => (by
          refine JL_normQ ⟨99, [(35, _), (36, _), (37, _), (38, _), (39, _), (40, _), (41, _), (42, _), (43, _), (44, _), (45, _), (46, _), (47, _), (48, _), (49, _), (50, _), (51, _), (52, _), (53, _), (54, _), (55, _), (56, _), (57, _), (58, _), (59, _), (60, _), (61, _)], _⟩ (_ :: _ :: _ :: _ :: ψ) rfl rfl ?_
          refine JL_gtr rfl rfl ?_
          rw [decide_eq_false (by decide)]
          exact JL_nil (JE_stepV rfl ss0))), OblS_V (fun vals ex ψ => (by
          refine JL_normQ ⟨99, [(35, _), (36, _), (37, _), (38, _), (39, _), (40, _), (41, _), (42, _), (43, _), (44, _), (45, _), (46, _), (47, _), (48, _), (49, _), (50, _), (51, _), (52, _), (53, _), (54, _), (55, _), (56, _), (57, _), (58, _), (59, _), (60, _), (61, _)], _⟩ (_ :: _ :: _ :: _ :: ψ) rfl rfl ?_
          refine JL_move rfl ?_
          exact JL_nil (JE_stepV rfl ss0))), OblS_V (fun vals ex ψ => (by
          refine JL_normQ ⟨99, [(35, _), (36, _), (37, _), (38, _), (39, _), (40, _), (41, _), (42, _), (43, _), (44, _), (45, _), (46, _), (47, _), (48, _), (49, _), (50, _), (51, _), (52, _), (53, _), (54, _), (55, _), (56, _), (57, _), (58, _), (59, _), (60, _), (61, _)], _⟩ (_ :: _ :: _ :: _ :: ψ) rfl rfl ?_
          refine JL_guard_no rfl rfl ?_
          exact JL_nil (JE_stepV rfl ss0))), OblS_V (fun vals ex ψ => (by
          refine JL_normQ ⟨99, [(35, _), (36, _), (37, _), (38, _), (39, _), (40, _), (41, _), (42, _), (43, _), (44, _), (45, _), (46, _), (47, _), (48, _), (49, _), (50, _), (51, _), (52, _), (53, _), (54, _), (55, _), (56, _), (57, _), (58, _), (59, _), (60, _), (61, _)], _⟩ (_ :: _ :: _ :: _ :: ψ) rfl rfl ?_
          refine JL_guard_no rfl rfl ?_
          exact JL_nil (JE_stepV rfl ss0))), OblS_V (fun vals ex ψ => (by
          refine JL_normQ ⟨99, [(35, _), (36, _), (37, _), (38, _), (39, _), (40, _), (41, _), (42, _), (43, _), (44, _), (45, _), (46, _), (47, _), (48, _), (49, _), (50, _), (51, _), (52, _), (53, _), (54, _), (55, _), (56, _), (57, _), (58, _), (59, _), (60, _), (61, _)], _⟩ (_ :: _ :: _ :: _ :: ψ) rfl rfl ?_
          refine JL_guard_no rfl rfl ?_
          exact JL_nil (JE_stepV rfl ss0))), OblS_V (fun vals ex ψ => (by
          refine JL_normQ ⟨99, [(35, _), (36, _), (37, _), (38, _), (39, _), (40, _), (41, _), (42, _), (43, _), (44, _), (45, _), (46, _), (47, _), (48, _), (49, _), (50, _), (51, _), (52, _), (53, _), (54, _), (55, _), (56, _), (57, _), (58, _), (59, _), (60, _), (61, _)], _⟩ (_ :: _ :: _ :: _ :: ψ) rfl rfl ?_
          refine JL_guard_no rfl rfl ?_
          exact JL_nil (JE_stepV rfl ss0))), OblS_V (fun vals ex ψ => (by
          refine JL_normQ ⟨99, [(35, _), (36, _), (37, _), (38, _), (39, _), (40, _), (41, _), (42, _), (43, _), (44, _), (45, _), (46, _), (47, _), (48, _), (49, _), (50, _), (51, _), (52, _), (53, _), (54, _), (55, _), (56, _), (57, _), (58, _), (59, _), (60, _), (61, _)], _⟩ (_ :: _ :: _ :: _ :: ψ) rfl rfl ?_
          refine JL_guard_no rfl rfl ?_
          exact JL_nil (JE_stepV rfl ss0))), OblS_V (fun vals ex ψ => (by
          refine JL_normQ ⟨99, [(35, _), (36, _), (37, _), (38, _), (39, _), (40, _), (41, _), (42, _), (43, _), (44, _), (45, _), (46, _), (47, _), (48, _), (49, _), (50, _), (51, _), (52, _), (53, _), (54, _), (55, _), (56, _), (57, _), (58, _), (59, _), (60, _), (61, _)], _⟩ (_ :: _ :: _ :: _ :: ψ) rfl rfl ?_
          refine JL_guard_no rfl rfl ?_
          exact JL_nil (JE_stepV rfl ss0))), OblS_V (fun vals ex ψ => (by
          refine JL_normQ ⟨99, [(35, _), (36, _), (37, _), (38, _), (39, _), (40, _), (41, _), (42, _), (43, _), (44, _), (45, _), (46, _), (47, _), (48, _), (49, _), (50, _), (51, _), (52, _), (53, _), (54, _), (55, _), (56, _), (57, _), (58, _), (59, _), (60, _), (61, _)], _⟩ (_ :: _ :: _ :: _ :: ψ) rfl rfl ?_
          refine JL_guard_no rfl rfl ?_
          exact JL_nil (JE_stepV rfl ss0))), OblS_V (fun vals ex ψ => (by
          refine JL_normQ ⟨99, [(35, _), (36, _), (37, _), (38, _), (39, _), (40, _), (41, _), (42, _), (43, _), (44, _), (45, _), (46, _), (47, _), (48, _), (49, _), (50, _), (51, _), (52, _), (53, _), (54, _), (55, _), (56, _), (57, _), (58, _), (59, _), (60, _), (61, _)], _⟩ (_ :: _ :: _ :: _ :: ψ) rfl rfl ?_
          refine JL_guard_no rfl rfl ?_
          exact JL_nil (JE_stepV rfl ss0))), OblS_V (fun vals ex ψ => (by
          refine JL_normQ ⟨99, [(35, _), (36, _), (37, _), (38, _), (39, _), (40, _), (41, _), (42, _), (43, _), (44, _), (45, _), (46, _), (47, _), (48, _), (49, _), (50, _), (51, _), (52, _), (53, _), (54, _), (55, _), (56, _), (57, _), (58, _), (59, _), (60, _), (61, _)], _⟩ (_ :: _ :: _ :: _ :: ψ) rfl rfl ?_
          refine JL_guard_no rfl rfl ?_
          exact JL_nil (JE_stepV rfl ss0))), OblS_V (fun vals ex ψ => (by
          refine JL_normQ ⟨99, [(35, _), (36, _), (37, _), (38, _), (39, _), (40, _), (41, _), (42, _), (43, _), (44, _), (45, _), (46, _), (47, _), (48, _), (49, _), (50, _), (51, _), (52, _), (53, _), (54, _), (55, _), (56, _), (57, _), (58, _), (59, _), (60, _), (61, _)], _⟩ (_ :: _ :: _ :: _ :: ψ) rfl rfl ?_
          refine JL_guard_no rfl rfl ?_
          exact JL_nil (JE_stepV rfl ss0))), OblS_V (fun vals ex ψ => (by
          refine JL_normQ ⟨99, [(35, _), (36, _), (37, _), (38, _), (39, _), (40, _), (41, _), (42, _), (43, _), (44, _), (45, _), (46, _), (47, _), (48, _), (49, _), (50, _), (51, _), (52, _), (53, _), (54, _), (55, _), (56, _), (57, _), (58, _), (59, _), (60, _), (61, _)], _⟩ (_ :: _ :: _ :: _ :: ψ) rfl rfl ?_
          refine JL_guard_no rfl rfl ?_
          exact JL_nil (JE_stepV rfl ss0))), OblS_V (fun vals ex ψ => (by
          refine JL_normQ ⟨99, [(35, _), (36, _), (37, _), (38, _), (39, _), (40, _), (41, _), (42, _), (43, _), (44, _), (45, _), (46, _), (47, _), (48, _), (49, _), (50, _), (51, _), (52, _), (53, _), (54, _), (55, _), (56, _), (57, _), (58, _), (59, _), (60, _), (61, _)], _⟩ (_ :: _ :: _ :: _ :: ψ) rfl rfl ?_
          refine JL_guard_no rfl rfl ?_
          exact JL_nil (JE_stepV rfl ss0))), OblS_V (fun vals ex ψ => (by
          refine JL_normQ ⟨99, [(35, _), (36, _), (37, _), (38, _), (39, _), (40, _), (41, _), (42, _), (43, _), (44, _), (45, _), (46, _), (47, _), (48, _), (49, _), (50, _), (51, _), (52, _), (53, _), (54, _), (55, _), (56, _), (57, _), (58, _), (59, _), (60, _), (61, _)], _⟩ (_ :: _ :: _ :: _ :: ψ) rfl rfl ?_
          refine JL_guard_no rfl rfl ?_
          exact JL_nil (JE_stepV rfl ss0))), OblS_V (fun vals ex ψ => (by
          refine JL_normQ ⟨99, [(35, _), (36, _), (37, _), (38, _), (39, _), (40, _), (41, _), (42, _), (43, _), (44, _), (45, _), (46, _), (47, _), (48, _), (49, _), (50, _), (51, _), (52, _), (53, _), (54, _), (55, _), (56, _), (57, _), (58, _), (59, _), (60, _), (61, _)], _⟩ (_ :: _ :: _ :: _ :: ψ) rfl rfl ?_
          refine JL_guard_no rfl rfl ?_
          exact JL_nil (JE_stepV rfl ss0))), OblS_V (fun vals ex ψ => (by
          refine JL_normQ ⟨99, [(35, _), (36, _), (37, _), (38, _), (39, _), (40, _), (41, _), (42, _), (43, _), (44, _), (45, _), (46, _), (47, _), (48, _), (49, _), (50, _), (51, _), (52, _), (53, _), (54, _), (55, _), (56, _), (57, _), (58, _), (59, _), (60, _), (61, _)], _⟩ (_ :: _ :: _ :: _ :: ψ) rfl rfl ?_
          refine JL_guard_no rfl rfl ?_
          exact JL_nil (JE_stepV rfl ss0))), OblS_V (fun vals ex ψ => (by
          refine JL_normQ ⟨99, [(35, _), (36, _), (37, _), (38, _), (39, _), (40, _), (41, _), (42, _), (43, _), (44, _), (45, _), (46, _), (47, _), (48, _), (49, _), (50, _), (51, _), (52, _), (53, _), (54, _), (55, _), (56, _), (57, _), (58, _), (59, _), (60, _), (61, _)], _⟩ (_ :: _ :: _ :: _ :: ψ) rfl rfl ?_
          refine JL_guard_no rfl rfl ?_
          exact JL_nil (JE_stepV rfl ss0))), OblS_V (fun vals ex ψ => (by
          refine JL_normQ ⟨99, [(35, _), (36, _), (37, _), (38, _), (39, _), (40, _), (41, _), (42, _), (43, _), (44, _), (45, _), (46, _), (47, _), (48, _), (49, _), (50, _), (51, _), (52, _), (53, _), (54, _), (55, _), (56, _), (57, _), (58, _), (59, _), (60, _), (61, _)], _⟩ (_ :: _ :: _ :: _ :: ψ) rfl rfl ?_
          refine JL_guard_no rfl rfl ?_
          exact JL_nil (JE_stepV rfl ss0))), OblS_V (fun vals ex ψ => (by
          refine JL_normQ ⟨99, [(35, _), (36, _), (37, _), (38, _), (39, _), (40, _), (41, _), (42, _), (43, _), (44, _), (45, _), (46, _), (47, _), (48, _), (49, _), (50, _), (51, _), (52, _), (53, _), (54, _), (55, _), (56, _), (57, _), (58, _), (59, _), (60, _), (61, _)], _⟩ (_ :: _ :: _ :: _ :: ψ) rfl rfl ?_
          refine JL_guard_no rfl rfl ?_
          exact JL_nil (JE_stepV rfl ss0))), OblS_V (fun vals ex ψ => (by
          refine JL_normQ ⟨99, [(35, _), (36, _), (37, _), (38, _), (39, _), (40, _), (41, _), (42, _), (43, _), (44, _), (45, _), (46, _), (47, _), (48, _), (49, _), (50, _), (51, _), (52, _), (53, _), (54, _), (55, _), (56, _), (57, _), (58, _), (59, _), (60, _), (61, _)], _⟩ (_ :: _ :: _ :: _ :: ψ) rfl rfl ?_
          refine JL_guard_no rfl rfl ?_
          exact JL_nil (JE_stepV rfl ss0))), OblS_V (fun vals ex ψ => (by
          refine JL_normQ ⟨99, [(35, _), (36, _), (37, _), (38, _), (39, _), (40, _), (41, _), (42, _), (43, _), (44, _), (45, _), (46, _), (47, _), (48, _), (49, _), (50, _), (51, _), (52, _), (53, _), (54, _), (55, _), (56, _), (57, _), (58, _), (59, _), (60, _), (61, _)], _⟩ (_ :: _ :: _ :: _ :: ψ) rfl rfl ?_
          refine JL_guard_no rfl rfl ?_
          exact JL_nil (JE_stepV rfl ss0))), OblS_V (fun vals ex ψ => (by
          refine JL_normQ ⟨99, [(35, _), (36, _), (37, _), (38, _), (39, _), (40, _), (41, _), (42, _), (43, _), (44, _), (45, _), (46, _), (47, _), (48, _), (49, _), (50, _), (51, _), (52, _), (53, _), (54, _), (55, _), (56, _), (57, _), (58, _), (59, _), (60, _), (61, _)], _⟩ (_ :: _ :: _ :: _ :: ψ) rfl rfl ?_
          refine JL_guard_no rfl rfl ?_
          exact JL_nil (JE_stepV rfl ss0))), OblS_V (fun vals ex ψ => (by
          refine JL_normQ ⟨99, [(35, _), (36, _), (37, _), (38, _), (39, _), (40, _), (41, _), (42, _), (43, _), (44, _), (45, _), (46, _), (47, _), (48, _), (49, _), (50, _), (51, _), (52, _), (53, _), (54, _), (55, _), (56, _), (57, _), (58, _), (59, _), (60, _), (61, _)], _⟩ (_ :: _ :: _ :: _ :: ψ) rfl rfl ?_
          refine JL_guard_no rfl rfl ?_
          exact JL_nil (JE_stepV rfl ss0))), OblS_V (fun vals ex ψ => (by
          refine JL_normQ ⟨99, [(35, _), (36, _), (37, _), (38, _), (39, _), (40, _), (41, _), (42, _), (43, _), (44, _), (45, _), (46, _), (47, _), (48, _), (49, _), (50, _), (51, _), (52, _), (53, _), (54, _), (55, _), (56, _), (57, _), (58, _), (59, _), (60, _), (61, _)], _⟩ (_ :: _ :: _ :: _ :: ψ) rfl rfl ?_
          refine JL_guard_no rfl rfl ?_
          exact JL_nil (JE_stepV rfl ss0))), OblS_V (fun vals ex ψ => (by
          refine JL_normQ ⟨99, [(35, _), (36, _), (37, _), (38, _), (39, _), (40, _), (41, _), (42, _), (43, _), (44, _), (45, _), (46, _), (47, _), (48, _), (49, _), (50, _), (51, _), (52, _), (53, _), (54, _), (55, _), (56, _), (57, _), (58, _), (59, _), (60, _), (61, _)], _⟩ (_ :: _ :: _ :: _ :: ψ) rfl rfl ?_
          refine JL_guard_no rfl rfl ?_
          exact JL_nil (JE_stepV rfl ss0))), trivial⟩ (by kernel_rfl) (fun vals bs => ?_)
      refine JL_normL [_, _] ⟨99, [(35, _), (36, _), (37, _), (38, _), (39, _), (40, _), (41, _), (42, _), (43, _), (44, _), (45, _), (46, _), (47, _), (48, _), (49, _), (50, _), (51, _), (52, _), (53, _), (54, _), (55, _), (56, _), (57, _), (58, _), (59, _), (60, _), (61, _)], _⟩ [osl _ _ _ _ _ _] [_, _, _, _] rfl rfl rfl rfl ?_
      refine JL_guard_no rfl rfl ?_
      refine JL_pick_f rfl rfl ?_
      refine JL_done_up 99 [osl _ _ _ _ _ _] [_, _, _, _] rfl rfl (by simp only [nrmF]; rfl) rfl rfl ?_
      refine JC_false rfl ?_
      refine JC_exit ?_
      refine JE_then_exit ?_
      refine JE_nextS_exit ?_
      refine JE_block_exit ?_
      refine JE_block_normal ?_
      refine JE_then ?_
      refine JC_region ?_
      refine JL_add_to rfl rfl (IntWalk.i64_in _ (by omega)) ?_
      refine JL_move rfl ?_
      refine JL_nil_up 99 [osl _ _ _ _ _ _] [_, _, _, _] rfl rfl (by simp only [nrmF]; rfl) rfl rfl ?_
      refine JE_nextS (k + 1, [t], ad1, cap1) (by kernel_rfl) ?_ ?_ (by kernel_rfl) ?_
      · exact ⟨by omega, hp⟩
      · first | omega | (dsimp only; omega)
      · exact subset_app subset_nil (ssS (ssS ss0))
    · have hta := hT.head (by omega)
      obtain ⟨z1, z2, z3, z4, z5, z6⟩ := hta
      obtain ⟨mm, hm1, hm2, _⟩ := hT.tail (by omega)
      obtain ⟨y1, y2, y3, y4, y5, y6⟩ := hm2.head hm1
      have hTl := hT.len
      simp only [List.length_cons] at hTl
      refine JC_drawT mixed 27 [spV 35 [] _, spV 36 [0] _, spV 37 [1] _, spV 38 [2] _, spV 39 [2] _, spV 40 [2, 4] _, spV 41 [2, 3, 5] _, spV 42 [2, 6] _, spV 43 [2, 7] _, spV 44 [2] _, spV 45 [2] _, spV 46 [2, 9, 10] _, spV 47 [2, 11] _, spV 48 [2, 12] _, spV 49 [2, 8, 13] _, spV 50 [2] _, spV 51 [2] _, spV 52 [2, 15, 16] _, spV 53 [2, 17] _, spV 54 [2, 18] _, spV 55 [2] _, spV 56 [2] _, spV 57 [2, 21] _, spV 58 [2, 20, 22] _, spV 59 [2, 23] _, spV 60 [2, 24] _, spV 61 [2, 19, 25] _] ⟨OblS_V (fun vals ex ψ => (by
          refine JL_normQ ⟨99, [(35, _), (36, _), (37, _), (38, _), (39, _), (40, _), (41, _), (42, _), (43, _), (44, _), (45, _), (46, _), (47, _), (48, _), (49, _), (50, _), (51, _), (52, _), (53, _), (54, _), (55, _), (56, _), (57, _), (58, _), (59, _), (60, _), (61, _)], _⟩ (_ :: _ :: _ :: _ :: ψ) rfl rfl ?_
          refine JL_move rfl ?_
          exact JL_nil (JE_stepV rfl ss0))), OblS_V (fun vals ex ψ => (by
          refine JL_normQ ⟨99, [(35, _), (36, _), (37, _), (38, _), (39, _), (40, _), (41, _), (42, _), (43, _), (44, _), (45, _), (46, _), (47, _), (48, _), (49, _), (50, _), (51, _), (52, _), (53, _), (54, _), (55, _), (56, _), (57, _), (58, _), (59, _), (60, _), (61, _)], _⟩ (_ :: _ :: _ :: _ :: ψ) rfl rfl ?_
          refine JL_gtr rfl rfl ?_
          rw [decide_eq_true (by simp only [List.length_cons]; omega)]
          exact JL_nil (JE_stepV rfl ss0))), OblS_V (fun vals ex ψ => (by
          refine JL_normQ ⟨99, [(35, _), (36, _), (37, _), (38, _), (39, _), (40, _), (41, _), (42, _), (43, _), (44, _), (45, _), (46, _), (47, _), (48, _), (49, _), (50, _), (51, _), (52, _), (53, _), (54, _), (55, _), (56, _), (57, _), (58, _), (59, _), (60, _), (61, _)], _⟩ (_ :: _ :: _ :: _ :: ψ) rfl rfl ?_
          refine JL_move rfl ?_
          exact JL_nil (JE_stepV rfl ss0))), OblS_V (fun vals ex ψ => (by
          refine JL_normQ ⟨99, [(35, _), (36, _), (37, _), (38, _), (39, _), (40, _), (41, _), (42, _), (43, _), (44, _), (45, _), (46, _), (47, _), (48, _), (49, _), (50, _), (51, _), (52, _), (53, _), (54, _), (55, _), (56, _), (57, _), (58, _), (59, _), (60, _), (61, _)], _⟩ (_ :: _ :: _ :: _ :: ψ) rfl rfl ?_
          refine JL_guard_yes rfl rfl ?_
          refine JL_move rfl ?_
          exact JL_nil (JE_stepV rfl ss0))), OblS_V (fun vals ex ψ => (by
          refine JL_normQ ⟨99, [(35, _), (36, _), (37, _), (38, _), (39, _), (40, _), (41, _), (42, _), (43, _), (44, _), (45, _), (46, _), (47, _), (48, _), (49, _), (50, _), (51, _), (52, _), (53, _), (54, _), (55, _), (56, _), (57, _), (58, _), (59, _), (60, _), (61, _)], _⟩ (_ :: _ :: _ :: _ :: ψ) rfl rfl ?_
          refine JL_guard_yes rfl rfl ?_
          refine JL_move rfl ?_
          exact JL_nil (JE_stepV rfl ss0))), OblS_V (fun vals ex ψ => (by
          refine JL_normQ ⟨99, [(35, _), (36, _), (37, _), (38, _), (39, _), (40, _), (41, _), (42, _), (43, _), (44, _), (45, _), (46, _), (47, _), (48, _), (49, _), (50, _), (51, _), (52, _), (53, _), (54, _), (55, _), (56, _), (57, _), (58, _), (59, _), (60, _), (61, _)], _⟩ (_ :: _ :: _ :: _ :: ψ) rfl rfl ?_
          refine JL_guard_yes rfl rfl ?_
          refine JL_sub_to rfl rfl (IntWalk.i64_in _ (by simp only [List.length_cons]; omega)) ?_
          rw [show ((((a :: T).length : Nat) : Int) - 1 : Int) = (T.length : Int) from by simp only [List.length_cons]; omega]
          exact JL_nil (JE_stepV rfl ss0))), OblS_V (fun vals ex ψ => (by
          refine JL_normQ ⟨99, [(35, _), (36, _), (37, _), (38, _), (39, _), (40, _), (41, _), (42, _), (43, _), (44, _), (45, _), (46, _), (47, _), (48, _), (49, _), (50, _), (51, _), (52, _), (53, _), (54, _), (55, _), (56, _), (57, _), (58, _), (59, _), (60, _), (61, _)], _⟩ (_ :: _ :: _ :: _ :: ψ) rfl rfl ?_
          refine JL_guard_yes rfl rfl ?_
          refine JL_indexAddr T.length sl45 rfl rfl rfl (by simp only [List.length_cons]; omega) (Reads.own 0 rfl) (by rw [bcells_length, List.length_reverse]; simp only [List.length_cons]; omega) ?_
          exact JL_nil (JE_stepV rfl ss0))), OblS_V (fun vals ex ψ => (by
          refine JL_normQ ⟨99, [(35, _), (36, _), (37, _), (38, _), (39, _), (40, _), (41, _), (42, _), (43, _), (44, _), (45, _), (46, _), (47, _), (48, _), (49, _), (50, _), (51, _), (52, _), (53, _), (54, _), (55, _), (56, _), (57, _), (58, _), (59, _), (60, _), (61, _)], _⟩ (_ :: _ :: _ :: _ :: ψ) rfl rfl ?_
          refine JL_guard_yes rfl rfl ?_
          refine JL_fieldAddrE fo48_1 rfl (Reads.own 0 rfl) (by rw [bcells_length, List.length_reverse]; simp only [List.length_cons]; omega) ?_
          exact JL_nil (JE_stepV rfl ss0))), OblS_V (fun vals ex ψ => (by
          refine JL_normQ ⟨99, [(35, _), (36, _), (37, _), (38, _), (39, _), (40, _), (41, _), (42, _), (43, _), (44, _), (45, _), (46, _), (47, _), (48, _), (49, _), (50, _), (51, _), (52, _), (53, _), (54, _), (55, _), (56, _), (57, _), (58, _), (59, _), (60, _), (61, _)], _⟩ (_ :: _ :: _ :: _ :: ψ) rfl rfl ?_
          refine JL_guard_yes rfl rfl ?_
          refine JL_loadE ty3 rfl (Reads.own 0 rfl) (bcells_nxtA T t a 1 _ rfl) ?_
          exact JL_nil (JE_stepV rfl ss0))), OblS_V (fun vals ex ψ => (by
          refine JL_normQ ⟨99, [(35, _), (36, _), (37, _), (38, _), (39, _), (40, _), (41, _), (42, _), (43, _), (44, _), (45, _), (46, _), (47, _), (48, _), (49, _), (50, _), (51, _), (52, _), (53, _), (54, _), (55, _), (56, _), (57, _), (58, _), (59, _), (60, _), (61, _)], _⟩ (_ :: _ :: _ :: _ :: ψ) rfl rfl ?_
          refine JL_guard_yes rfl rfl ?_
          refine JL_move rfl ?_
          exact JL_nil (JE_stepV rfl ss0))), OblS_V (fun vals ex ψ => (by
          refine JL_normQ ⟨99, [(35, _), (36, _), (37, _), (38, _), (39, _), (40, _), (41, _), (42, _), (43, _), (44, _), (45, _), (46, _), (47, _), (48, _), (49, _), (50, _), (51, _), (52, _), (53, _), (54, _), (55, _), (56, _), (57, _), (58, _), (59, _), (60, _), (61, _)], _⟩ (_ :: _ :: _ :: _ :: ψ) rfl rfl ?_
          refine JL_guard_yes rfl rfl ?_
          refine JL_move rfl ?_
          exact JL_nil (JE_stepV rfl ss0))), OblS_V (fun vals ex ψ => (by
          refine JL_normQ ⟨99, [(35, _), (36, _), (37, _), (38, _), (39, _), (40, _), (41, _), (42, _), (43, _), (44, _), (45, _), (46, _), (47, _), (48, _), (49, _), (50, _), (51, _), (52, _), (53, _), (54, _), (55, _), (56, _), (57, _), (58, _), (59, _), (60, _), (61, _)], _⟩ (_ :: _ :: _ :: _ :: ψ) rfl rfl ?_
          refine JL_guard_yes rfl rfl ?_
          refine JL_indexAddr (a :: T).length sl45 rfl rfl rfl (by simp only [List.length_cons]; omega) (Reads.own 0 rfl) (by rw [bcells_length, List.length_reverse]; simp only [List.length_cons]; omega) ?_
          exact JL_nil (JE_stepV rfl ss0))), OblS_V (fun vals ex ψ => (by
          refine JL_normQ ⟨99, [(35, _), (36, _), (37, _), (38, _), (39, _), (40, _), (41, _), (42, _), (43, _), (44, _), (45, _), (46, _), (47, _), (48, _), (49, _), (50, _), (51, _), (52, _), (53, _), (54, _), (55, _), (56, _), (57, _), (58, _), (59, _), (60, _), (61, _)], _⟩ (_ :: _ :: _ :: _ :: ψ) rfl rfl ?_
          refine JL_guard_yes rfl rfl ?_
          refine JL_fieldAddrE fo48_2 rfl (Reads.own 0 rfl) (by rw [bcells_length, List.length_reverse]; simp only [List.length_cons]; omega) ?_
          exact JL_nil (JE_stepV rfl ss0))), OblS_V (fun vals ex ψ => (by
          refine JL_normQ ⟨99, [(35, _), (36, _), (37, _), (38, _), (39, _), (40, _), (41, _), (42, _), (43, _), (44, _), (45, _), (46, _), (47, _), (48, _), (49, _), (50, _), (51, _), (52, _), (53, _), (54, _), (55, _), (56, _), (57, _), (58, _), (59, _), (60, _), (61, _)], _⟩ (_ :: _ :: _ :: _ :: ψ) rfl rfl ?_
          refine JL_guard_yes rfl rfl ?_
          refine JL_loadE ty3 rfl (Reads.own 0 rfl) (bcells_topA (a :: T) t 2 _ rfl) ?_
          exact JL_nil (JE_stepV rfl ss0))), OblS_V (fun vals ex ψ => (by
          refine JL_normQ ⟨99, [(35, _), (36, _), (37, _), (38, _), (39, _), (40, _), (41, _), (42, _), (43, _), (44, _), (45, _), (46, _), (47, _), (48, _), (49, _), (50, _), (51, _), (52, _), (53, _), (54, _), (55, _), (56, _), (57, _), (58, _), (59, _), (60, _), (61, _)], _⟩ (_ :: _ :: _ :: _ :: ψ) rfl rfl ?_
          refine JL_guard_yes rfl rfl ?_
          refine JL_mul_to rfl rfl (IntWalk.i64_in _ (prod_in y3 y4 z5 z6)) ?_
          exact JL_nil (JE_stepV rfl ss0))), OblS_V (fun vals ex ψ => (by
          refine JL_normQ ⟨99, [(35, _), (36, _), (37, _), (38, _), (39, _), (40, _), (41, _), (42, _), (43, _), (44, _), (45, _), (46, _), (47, _), (48, _), (49, _), (50, _), (51, _), (52, _), (53, _), (54, _), (55, _), (56, _), (57, _), (58, _), (59, _), (60, _), (61, _)], _⟩ (_ :: _ :: _ :: _ :: ψ) rfl rfl ?_
          refine JL_guard_yes rfl rfl ?_
          refine JL_move rfl ?_
          exact JL_nil (JE_stepV rfl ss0))), OblS_V (fun vals ex ψ => (by
          refine JL_normQ ⟨99, [(35, _), (36, _), (37, _), (38, _), (39, _), (40, _), (41, _), (42, _), (43, _), (44, _), (45, _), (46, _), (47, _), (48, _), (49, _), (50, _), (51, _), (52, _), (53, _), (54, _), (55, _), (56, _), (57, _), (58, _), (59, _), (60, _), (61, _)], _⟩ (_ :: _ :: _ :: _ :: ψ) rfl rfl ?_
          refine JL_guard_yes rfl rfl ?_
          refine JL_move rfl ?_
          exact JL_nil (JE_stepV rfl ss0))), OblS_V (fun vals ex ψ => (by
          refine JL_normQ ⟨99, [(35, _), (36, _), (37, _), (38, _), (39, _), (40, _), (41, _), (42, _), (43, _), (44, _), (45, _), (46, _), (47, _), (48, _), (49, _), (50, _), (51, _), (52, _), (53, _), (54, _), (55, _), (56, _), (57, _), (58, _), (59, _), (60, _), (61, _)], _⟩ (_ :: _ :: _ :: _ :: ψ) rfl rfl ?_
          refine JL_guard_yes rfl rfl ?_
          refine JL_indexAddr (a :: T).length sl45 rfl rfl rfl (by simp only [List.length_cons]; omega) (Reads.own 0 rfl) (by rw [bcells_length, List.length_reverse]; simp only [List.length_cons]; omega) ?_
          exact JL_nil (JE_stepV rfl ss0))), OblS_V (fun vals ex ψ => (by
          refine JL_normQ ⟨99, [(35, _), (36, _), (37, _), (38, _), (39, _), (40, _), (41, _), (42, _), (43, _), (44, _), (45, _), (46, _), (47, _), (48, _), (49, _), (50, _), (51, _), (52, _), (53, _), (54, _), (55, _), (56, _), (57, _), (58, _), (59, _), (60, _), (61, _)], _⟩ (_ :: _ :: _ :: _ :: ψ) rfl rfl ?_
          refine JL_guard_yes rfl rfl ?_
          refine JL_fieldAddrE fo48_1 rfl (Reads.own 0 rfl) (by rw [bcells_length, List.length_reverse]; simp only [List.length_cons]; omega) ?_
          exact JL_nil (JE_stepV rfl ss0))), OblS_V (fun vals ex ψ => (by
          refine JL_normQ ⟨99, [(35, _), (36, _), (37, _), (38, _), (39, _), (40, _), (41, _), (42, _), (43, _), (44, _), (45, _), (46, _), (47, _), (48, _), (49, _), (50, _), (51, _), (52, _), (53, _), (54, _), (55, _), (56, _), (57, _), (58, _), (59, _), (60, _), (61, _)], _⟩ (_ :: _ :: _ :: _ :: ψ) rfl rfl ?_
          refine JL_guard_yes rfl rfl ?_
          refine JL_loadE ty3 rfl (Reads.own 0 rfl) (bcells_topA (a :: T) t 1 _ rfl) ?_
          exact JL_nil (JE_stepV rfl ss0))), OblS_V (fun vals ex ψ => (by
          refine JL_normQ ⟨99, [(35, _), (36, _), (37, _), (38, _), (39, _), (40, _), (41, _), (42, _), (43, _), (44, _), (45, _), (46, _), (47, _), (48, _), (49, _), (50, _), (51, _), (52, _), (53, _), (54, _), (55, _), (56, _), (57, _), (58, _), (59, _), (60, _), (61, _)], _⟩ (_ :: _ :: _ :: _ :: ψ) rfl rfl ?_
          refine JL_guard_yes rfl rfl ?_
          refine JL_move rfl ?_
          exact JL_nil (JE_stepV rfl ss0))), OblS_V (fun vals ex ψ => (by
          refine JL_normQ ⟨99, [(35, _), (36, _), (37, _), (38, _), (39, _), (40, _), (41, _), (42, _), (43, _), (44, _), (45, _), (46, _), (47, _), (48, _), (49, _), (50, _), (51, _), (52, _), (53, _), (54, _), (55, _), (56, _), (57, _), (58, _), (59, _), (60, _), (61, _)], _⟩ (_ :: _ :: _ :: _ :: ψ) rfl rfl ?_
          refine JL_guard_yes rfl rfl ?_
          refine JL_move rfl ?_
          exact JL_nil (JE_stepV rfl ss0))), OblS_V (fun vals ex ψ => (by
          refine JL_normQ ⟨99, [(35, _), (36, _), (37, _), (38, _), (39, _), (40, _), (41, _), (42, _), (43, _), (44, _), (45, _), (46, _), (47, _), (48, _), (49, _), (50, _), (51, _), (52, _), (53, _), (54, _), (55, _), (56, _), (57, _), (58, _), (59, _), (60, _), (61, _)], _⟩ (_ :: _ :: _ :: _ :: ψ) rfl rfl ?_
          refine JL_guard_yes rfl rfl ?_
          refine JL_sub_to rfl rfl (IntWalk.i64_in _ (by simp only [List.length_cons]; omega)) ?_
          rw [show ((((a :: T).length : Nat) : Int) - 1 : Int) = (T.length : Int) from by simp only [List.length_cons]; omega]
          exact JL_nil (JE_stepV rfl ss0))), OblS_V (fun vals ex ψ => (by
          refine JL_normQ ⟨99, [(35, _), (36, _), (37, _), (38, _), (39, _), (40, _), (41, _), (42, _), (43, _), (44, _), (45, _), (46, _), (47, _), (48, _), (49, _), (50, _), (51, _), (52, _), (53, _), (54, _), (55, _), (56, _), (57, _), (58, _), (59, _), (60, _), (61, _)], _⟩ (_ :: _ :: _ :: _ :: ψ) rfl rfl ?_
          refine JL_guard_yes rfl rfl ?_
          refine JL_indexAddr T.length sl45 rfl rfl rfl (by simp only [List.length_cons]; omega) (Reads.own 0 rfl) (by rw [bcells_length, List.length_reverse]; simp only [List.length_cons]; omega) ?_
          exact JL_nil (JE_stepV rfl ss0))), OblS_V (fun vals ex ψ => (by
          refine JL_normQ ⟨99, [(35, _), (36, _), (37, _), (38, _), (39, _), (40, _), (41, _), (42, _), (43, _), (44, _), (45, _), (46, _), (47, _), (48, _), (49, _), (50, _), (51, _), (52, _), (53, _), (54, _), (55, _), (56, _), (57, _), (58, _), (59, _), (60, _), (61, _)], _⟩ (_ :: _ :: _ :: _ :: ψ) rfl rfl ?_
          refine JL_guard_yes rfl rfl ?_
          refine JL_fieldAddrE fo48_2 rfl (Reads.own 0 rfl) (by rw [bcells_length, List.length_reverse]; simp only [List.length_cons]; omega) ?_
          exact JL_nil (JE_stepV rfl ss0))), OblS_V (fun vals ex ψ => (by
          refine JL_normQ ⟨99, [(35, _), (36, _), (37, _), (38, _), (39, _), (40, _), (41, _), (42, _), (43, _), (44, _), (45, _), (46, _), (47, _), (48, _), (49, _), (50, _), (51, _), (52, _), (53, _), (54, _), (55, _), (56, _), (57, _), (58, _), (59, _), (60, _), (61, _)], _⟩ (_ :: _ :: _ :: _ :: ψ) rfl rfl ?_
          refine JL_guard_yes rfl rfl ?_
          refine JL_loadE ty3 rfl (Reads.own 0 rfl) (bcells_nxtA T t a 2 _ rfl) ?_
          exact JL_nil (JE_stepV rfl ss0))), OblS_V (fun vals ex ψ => (by
          refine JL_normQ ⟨99, [(35, _), (36, _), (37, _), (38, _), (39, _), (40, _), (41, _), (42, _), (43, _), (44, _), (45, _), (46, _), (47, _), (48, _), (49, _), (50, _), (51, _), (52, _), (53, _), (54, _), (55, _), (56, _), (57, _), (58, _), (59, _), (60, _), (61, _)], _⟩ (_ :: _ :: _ :: _ :: ψ) rfl rfl ?_
          refine JL_guard_yes rfl rfl ?_
          refine JL_mul_to rfl rfl (IntWalk.i64_in _ (prod_in z3 z4 y5 y6)) ?_
          exact JL_nil (JE_stepV rfl ss0))), trivial⟩ (by kernel_rfl) (fun vals bs => ?_)
      refine JL_normL [_, _] ⟨99, [(35, _), (36, _), (37, _), (38, _), (39, _), (40, _), (41, _), (42, _), (43, _), (44, _), (45, _), (46, _), (47, _), (48, _), (49, _), (50, _), (51, _), (52, _), (53, _), (54, _), (55, _), (56, _), (57, _), (58, _), (59, _), (60, _), (61, _)], _⟩ [osl _ _ _ _ _ _] [_, _, _, _] rfl rfl rfl rfl ?_
      refine JL_guard_yes rfl rfl ?_
      refine JL_leq rfl rfl ?_
      refine JL_split (fun h62 => ?_) (fun h62 => ?_)
      · refine JL_pick_t rfl rfl ?_
        refine JL_done_up 99 [osl _ _ _ _ _ _] [_, _, _, _] rfl rfl (by simp only [nrmF]; rfl) rfl rfl ?_
        refine JC_true rfl ?_
        refine JC_skip ?_
        refine JE_then ?_
        refine JC_seq ?_
        refine JC_block ?_
        refine JC_seq ?_
        refine JC_drawX mixed 11 [5, 6, 7, 8] [([5, 6, 7, 8], 5), ([5, 7, 8], 4), ([6, 7, 8], 4), ([7, 8], 3), ([8], 2), ([], 1)] [spV 66 [] _, spV 67 [] _, spV 68 [1] _, spV 69 [0, 2] _, spV 70 [3] _, spV 71 [] _, spV 72 [] _, spV 73 [5, 6] _, spV 74 [7] _, spA 8 48 [.int .i64 0, .int .i64 0, .int .i64 0], spA 9 48 [.int .i64 0, .int .i64 0, .int .i64 0]] ⟨OblS_V (fun vals ex ψ => (by
            refine JL_normQ ⟨99, [(66, _), (67, _), (68, _), (69, _), (70, _), (71, _), (72, _), (73, _), (74, _), (8, _), (9, _)], _⟩ (_ :: _ :: _ :: _ :: ψ) rfl rfl ?_
            refine JL_move rfl ?_
            exact JL_nil (JE_stepV rfl ss0))), OblS_V (fun vals ex ψ => (by
            refine JL_normQ ⟨99, [(66, _), (67, _), (68, _), (69, _), (70, _), (71, _), (72, _), (73, _), (74, _), (8, _), (9, _)], _⟩ (_ :: _ :: _ :: _ :: ψ) rfl rfl ?_
            refine JL_move rfl ?_
            exact JL_nil (JE_stepV rfl ss0))), OblS_V (fun vals ex ψ => (by
            refine JL_normQ ⟨99, [(66, _), (67, _), (68, _), (69, _), (70, _), (71, _), (72, _), (73, _), (74, _), (8, _), (9, _)], _⟩ (_ :: _ :: _ :: _ :: ψ) rfl rfl ?_
            refine JL_sub_to rfl rfl (IntWalk.i64_in _ (by simp only [List.length_cons]; omega)) ?_
            rw [show ((((a :: T).length : Nat) : Int) - 1 : Int) = (T.length : Int) from by simp only [List.length_cons]; omega]
            exact JL_nil (JE_stepV rfl ss0))), OblS_V (fun vals ex ψ => (by
            refine JL_normQ ⟨99, [(66, _), (67, _), (68, _), (69, _), (70, _), (71, _), (72, _), (73, _), (74, _), (8, _), (9, _)], _⟩ (_ :: _ :: _ :: _ :: ψ) rfl rfl ?_
            refine JL_indexAddr T.length sl45 rfl rfl rfl (by simp only [List.length_cons]; omega) (Reads.own 0 rfl) (by rw [bcells_length, List.length_reverse]; simp only [List.length_cons]; omega) ?_
            exact JL_nil (JE_stepV rfl ss0))), OblS_V (fun vals ex ψ => (by
            refine JL_normQ ⟨99, [(66, _), (67, _), (68, _), (69, _), (70, _), (71, _), (72, _), (73, _), (74, _), (8, _), (9, _)], _⟩ (_ :: _ :: _ :: _ :: ψ) rfl rfl ?_
            refine JL_loadEA (vs := [_, _, _]) ty48 (Nat.zero_lt_succ _) rfl (Reads.own 0 rfl) (bcells_nxtA T t a) ?_
            exact JL_nil (JE_stepV rfl ss0))), OblS_V (fun vals ex ψ => (by
            refine JL_normQ ⟨99, [(66, _), (67, _), (68, _), (69, _), (70, _), (71, _), (72, _), (73, _), (74, _), (8, _), (9, _)], _⟩ (_ :: _ :: _ :: _ :: ψ) rfl rfl ?_
            refine JL_move rfl ?_
            exact JL_nil (JE_stepV rfl ss0))), OblS_V (fun vals ex ψ => (by
            refine JL_normQ ⟨99, [(66, _), (67, _), (68, _), (69, _), (70, _), (71, _), (72, _), (73, _), (74, _), (8, _), (9, _)], _⟩ (_ :: _ :: _ :: _ :: ψ) rfl rfl ?_
            refine JL_move rfl ?_
            exact JL_nil (JE_stepV rfl ss0))), OblS_V (fun vals ex ψ => (by
            refine JL_normQ ⟨99, [(66, _), (67, _), (68, _), (69, _), (70, _), (71, _), (72, _), (73, _), (74, _), (8, _), (9, _)], _⟩ (_ :: _ :: _ :: _ :: ψ) rfl rfl ?_
            refine JL_indexAddr (a :: T).length sl45 rfl rfl rfl (by simp only [List.length_cons]; omega) (Reads.own 0 rfl) (by rw [bcells_length, List.length_reverse]; simp only [List.length_cons]; omega) ?_
            exact JL_nil (JE_stepV rfl ss0))), OblS_V (fun vals ex ψ => (by
            refine JL_normQ ⟨99, [(66, _), (67, _), (68, _), (69, _), (70, _), (71, _), (72, _), (73, _), (74, _), (8, _), (9, _)], _⟩ (_ :: _ :: _ :: _ :: ψ) rfl rfl ?_
            refine JL_loadEA (vs := [_, _, _]) ty48 (Nat.zero_lt_succ _) rfl (Reads.own 0 rfl) (bcells_topA (a :: T) t) ?_
            exact JL_nil (JE_stepV rfl ss0))), OblS_al rfl z48, OblS_al rfl z48, trivial⟩ (by kernel_rfl) rfl rfl ⟨fun vals bs r => ?_, fun vals bs r => ?_, fun vals bs r => ?_, fun vals bs r => ?_, fun vals bs r => ?_, fun vals bs r => ?_, trivial⟩
        · refine JL_normL [_] ⟨99, [(66, _), (67, _), (68, _), (69, _), (70, _), (71, _), (72, _), (73, _), (74, _), (8, _), (9, _)], _⟩ [osl _ _ _ _ _ _, box _ _ [_, _, _], box _ _ [_, _, _]] [_, _, _, _, _, _, _, _] rfl rfl rfl rfl ?_
          generalize vals (0 + 1 + 1 + 1 + 1 + 1) = x71
          generalize vals (0 + 1 + 1 + 1 + 1 + 1 + 1) = x72
          generalize vals (0 + 1 + 1 + 1 + 1 + 1 + 1 + 1) = x73
          generalize vals (0 + 1 + 1 + 1 + 1 + 1 + 1 + 1 + 1) = x74
          generalize bs (0 + 1 + 1 + 1 + 1 + 1 + 1 + 1 + 1 + 1) = b8
          generalize bs (0 + 1 + 1 + 1 + 1 + 1 + 1 + 1 + 1 + 1 + 1) = b9
          refine JL_store (vs := [_, _, _]) 1 ty48 rfl rfl rfl (AllOne.cons rfl (AllOne.cons rfl (AllOne.cons rfl AllOne.nil))) rfl (Nat.le_of_ble_eq_true rfl) ?_
          refine JL_nil_up 99 [osl _ _ _ _ _ _, box _ _ [_, _, _], box _ _ [_, _, _]] [_, _, _, _, _, _, _, _] rfl rfl (by simp only [nrmF]; rfl) rfl rfl ?_
          refine JE_nextA ?_
          refine JA_step [5, 6] (by kernel_rfl) (by simp) ⟨⟨_, rfl, ?_⟩, ⟨_, rfl, ?_⟩, trivial⟩
          · refine JL_move rfl ?_
            refine JL_nil_up 99 [osl _ _ _ _ _ _, box _ _ [_, _, _], box _ _ [_, _, _]] [_, _, _, _, _, _, _, _] rfl rfl (by simp only [nrmF]; rfl) rfl rfl ?_
            refine JE_nextA ?_
            refine JA_step [6] (by kernel_rfl) (by simp) ⟨⟨_, rfl, ?_⟩, trivial⟩
            refine JL_move rfl ?_
            refine JL_nil_up 99 [osl _ _ _ _ _ _, box _ _ [_, _, _], box _ _ [_, _, _]] [_, _, _, _, _, _, _, _] rfl rfl (by simp only [nrmF]; rfl) rfl rfl ?_
            refine JE_nextA ?_
            refine JA_step [7] (by kernel_rfl) (by simp) ⟨⟨_, rfl, ?_⟩, trivial⟩
            refine JL_indexAddr (a :: T).length sl45 rfl rfl rfl (by simp only [List.length_cons]; omega) (Reads.own 0 rfl) (by rw [bcells_length, List.length_reverse]; simp only [List.length_cons]; omega) ?_
            refine JL_nil_up 99 [osl _ _ _ _ _ _, box _ _ [_, _, _], box _ _ [_, _, _]] [_, _, _, _, _, _, _, _] rfl rfl (by simp only [nrmF]; rfl) rfl rfl ?_
            refine JE_nextA ?_
            refine JA_step [8] (by kernel_rfl) (by simp) ⟨⟨_, rfl, ?_⟩, trivial⟩
            refine JL_loadEA (vs := [_, _, _]) ty48 (Nat.zero_lt_succ _) rfl (Reads.own 0 rfl) (bcells_topA (a :: T) t) ?_
            refine JL_nil_up 99 [osl _ _ _ _ _ _, box _ _ [_, _, _], box _ _ [_, _, _]] [_, _, _, _, _, _, _, _] rfl rfl (by simp only [nrmF]; rfl) rfl rfl ?_
            refine JE_nextA ?_
            refine JA_step [12] (by kernel_rfl) (by simp) ⟨⟨_, rfl, ?_⟩, trivial⟩
            refine JL_store (vs := [_, _, _]) 2 ty48 rfl rfl rfl (AllOne.cons rfl (AllOne.cons rfl (AllOne.cons rfl AllOne.nil))) rfl (Nat.le_of_ble_eq_true rfl) ?_
            refine JL_nil_up 99 [osl _ _ _ _ _ _, box _ _ [_, _, _], box _ _ [_, _, _]] [_, _, _, _, _, _, _, _] rfl rfl (by simp only [nrmF]; rfl) rfl rfl ?_
            refine JE_nextA ?_
            refine JA_end (by kernel_rfl) ?_
            refine JE_then ?_
            refine JC_drawT mixed 21 [spV 75 [] _, spV 76 [] _, spV 77 [1] _, spV 78 [0, 2] _, spV 79 [] _, spV 80 [4] _, spV 81 [] _, spV 82 [6] _, spV 83 [5, 7] _, spV 84 [] _, spV 85 [9] _, spV 86 [] _, spV 87 [11] _, spV 88 [10, 12] _, spV 89 [] _, spV 90 [14] _, spV 91 [] _, spV 92 [16] _, spV 93 [15, 17] _, spV 94 [8, 13, 18] (.agg #[.int .i64 ((a.z + t.z : Nat) : Int), .int .i64 (a.s + t.s), .int .i64 (a.w + t.w)]), spC 95 [19] (fun v φo => ∃ g : Nat, v = .slice (some ⟨g, 0, none⟩) 1 1 ∧ φo = [vCells (some ⟨g, 0, none⟩) [.int .i64 ((a.z + t.z : Nat) : Int), .int .i64 (a.s + t.s), .int .i64 (a.w + t.w)]])] ⟨OblS_V (fun vals ex ψ => (by
                refine JL_normQ ⟨99, [(75, _), (76, _), (77, _), (78, _), (79, _), (80, _), (81, _), (82, _), (83, _), (84, _), (85, _), (86, _), (87, _), (88, _), (89, _), (90, _), (91, _), (92, _), (93, _), (94, _), (95, _)], _⟩ (_ :: _ :: _ :: _ :: _ :: _ :: _ :: _ :: ψ) rfl rfl ?_
                refine JL_move rfl ?_
                exact JL_nil (JE_stepV rfl ss0))), OblS_V (fun vals ex ψ => (by
                refine JL_normQ ⟨99, [(75, _), (76, _), (77, _), (78, _), (79, _), (80, _), (81, _), (82, _), (83, _), (84, _), (85, _), (86, _), (87, _), (88, _), (89, _), (90, _), (91, _), (92, _), (93, _), (94, _), (95, _)], _⟩ (_ :: _ :: _ :: _ :: _ :: _ :: _ :: _ :: ψ) rfl rfl ?_
                refine JL_move rfl ?_
                exact JL_nil (JE_stepV rfl ss0))), OblS_V (fun vals ex ψ => (by
                refine JL_normQ ⟨99, [(75, _), (76, _), (77, _), (78, _), (79, _), (80, _), (81, _), (82, _), (83, _), (84, _), (85, _), (86, _), (87, _), (88, _), (89, _), (90, _), (91, _), (92, _), (93, _), (94, _), (95, _)], _⟩ (_ :: _ :: _ :: _ :: _ :: _ :: _ :: _ :: ψ) rfl rfl ?_
                refine JL_sub_to rfl rfl (IntWalk.i64_in _ (by simp only [List.length_cons]; omega)) ?_
                rw [show ((((a :: T).length : Nat) : Int) - 1 : Int) = (T.length : Int) from by simp only [List.length_cons]; omega]
                exact JL_nil (JE_stepV rfl ss0))), OblS_V (fun vals ex ψ => (by
                refine JL_normQ ⟨99, [(75, _), (76, _), (77, _), (78, _), (79, _), (80, _), (81, _), (82, _), (83, _), (84, _), (85, _), (86, _), (87, _), (88, _), (89, _), (90, _), (91, _), (92, _), (93, _), (94, _), (95, _)], _⟩ (_ :: _ :: _ :: _ :: _ :: _ :: _ :: _ :: ψ) rfl rfl ?_
                refine JL_sliceTo T.length sl45 rfl rfl rfl (by simp only [List.length_cons] at hcap; omega) ?_
                exact JL_nil (JE_stepV rfl ss0))), OblS_V (fun vals ex ψ => (by
                refine JL_normQ ⟨99, [(75, _), (76, _), (77, _), (78, _), (79, _), (80, _), (81, _), (82, _), (83, _), (84, _), (85, _), (86, _), (87, _), (88, _), (89, _), (90, _), (91, _), (92, _), (93, _), (94, _), (95, _)], _⟩ (_ :: _ :: _ :: _ :: _ :: _ :: _ :: _ :: ψ) rfl rfl ?_
                refine JL_fieldAddr fo48_0 rfl ?_
                exact JL_nil (JE_stepV rfl ss0))), OblS_V (fun vals ex ψ => (by
                refine JL_normQ ⟨99, [(75, _), (76, _), (77, _), (78, _), (79, _), (80, _), (81, _), (82, _), (83, _), (84, _), (85, _), (86, _), (87, _), (88, _), (89, _), (90, _), (91, _), (92, _), (93, _), (94, _), (95, _)], _⟩ (_ :: _ :: _ :: _ :: _ :: _ :: _ :: _ :: ψ) rfl rfl ?_
                refine JL_load 1 ty3 rfl rfl rfl ?_
                exact JL_nil (JE_stepV rfl ss0))), OblS_V (fun vals ex ψ => (by
                refine JL_normQ ⟨99, [(75, _), (76, _), (77, _), (78, _), (79, _), (80, _), (81, _), (82, _), (83, _), (84, _), (85, _), (86, _), (87, _), (88, _), (89, _), (90, _), (91, _), (92, _), (93, _), (94, _), (95, _)], _⟩ (_ :: _ :: _ :: _ :: _ :: _ :: _ :: _ :: ψ) rfl rfl ?_
                refine JL_fieldAddr fo48_0 rfl ?_
                exact JL_nil (JE_stepV rfl ss0))), OblS_V (fun vals ex ψ => (by
                refine JL_normQ ⟨99, [(75, _), (76, _), (77, _), (78, _), (79, _), (80, _), (81, _), (82, _), (83, _), (84, _), (85, _), (86, _), (87, _), (88, _), (89, _), (90, _), (91, _), (92, _), (93, _), (94, _), (95, _)], _⟩ (_ :: _ :: _ :: _ :: _ :: _ :: _ :: _ :: ψ) rfl rfl ?_
                refine JL_load 2 ty3 rfl rfl rfl ?_
                exact JL_nil (JE_stepV rfl ss0))), OblS_V (fun vals ex ψ => (by
                refine JL_normQ ⟨99, [(75, _), (76, _), (77, _), (78, _), (79, _), (80, _), (81, _), (82, _), (83, _), (84, _), (85, _), (86, _), (87, _), (88, _), (89, _), (90, _), (91, _), (92, _), (93, _), (94, _), (95, _)], _⟩ (_ :: _ :: _ :: _ :: _ :: _ :: _ :: _ :: ψ) rfl rfl ?_
                refine JL_add_to rfl rfl (IntWalk.i64_in _ (by omega)) ?_
                rw [show ((a.z : Int) + (t.z : Int) : Int) = ((a.z + t.z : Nat) : Int) from by omega]
                exact JL_nil (JE_stepV rfl ss0))), OblS_V (fun vals ex ψ => (by
                refine JL_normQ ⟨99, [(75, _), (76, _), (77, _), (78, _), (79, _), (80, _), (81, _), (82, _), (83, _), (84, _), (85, _), (86, _), (87, _), (88, _), (89, _), (90, _), (91, _), (92, _), (93, _), (94, _), (95, _)], _⟩ (_ :: _ :: _ :: _ :: _ :: _ :: _ :: _ :: ψ) rfl rfl ?_
                refine JL_fieldAddr fo48_1 rfl ?_
                exact JL_nil (JE_stepV rfl ss0))), OblS_V (fun vals ex ψ => (by
                refine JL_normQ ⟨99, [(75, _), (76, _), (77, _), (78, _), (79, _), (80, _), (81, _), (82, _), (83, _), (84, _), (85, _), (86, _), (87, _), (88, _), (89, _), (90, _), (91, _), (92, _), (93, _), (94, _), (95, _)], _⟩ (_ :: _ :: _ :: _ :: _ :: _ :: _ :: _ :: ψ) rfl rfl ?_
                refine JL_load 1 ty3 rfl rfl rfl ?_
                exact JL_nil (JE_stepV rfl ss0))), OblS_V (fun vals ex ψ => (by
                refine JL_normQ ⟨99, [(75, _), (76, _), (77, _), (78, _), (79, _), (80, _), (81, _), (82, _), (83, _), (84, _), (85, _), (86, _), (87, _), (88, _), (89, _), (90, _), (91, _), (92, _), (93, _), (94, _), (95, _)], _⟩ (_ :: _ :: _ :: _ :: _ :: _ :: _ :: _ :: ψ) rfl rfl ?_
                refine JL_fieldAddr fo48_1 rfl ?_
                exact JL_nil (JE_stepV rfl ss0))), OblS_V (fun vals ex ψ => (by
                refine JL_normQ ⟨99, [(75, _), (76, _), (77, _), (78, _), (79, _), (80, _), (81, _), (82, _), (83, _), (84, _), (85, _), (86, _), (87, _), (88, _), (89, _), (90, _), (91, _), (92, _), (93, _), (94, _), (95, _)], _⟩ (_ :: _ :: _ :: _ :: _ :: _ :: _ :: _ :: ψ) rfl rfl ?_
                refine JL_load 2 ty3 rfl rfl rfl ?_
                exact JL_nil (JE_stepV rfl ss0))), OblS_V (fun vals ex ψ => (by
                refine JL_normQ ⟨99, [(75, _), (76, _), (77, _), (78, _), (79, _), (80, _), (81, _), (82, _), (83, _), (84, _), (85, _), (86, _), (87, _), (88, _), (89, _), (90, _), (91, _), (92, _), (93, _), (94, _), (95, _)], _⟩ (_ :: _ :: _ :: _ :: _ :: _ :: _ :: _ :: ψ) rfl rfl ?_
                refine JL_add_to rfl rfl (IntWalk.i64_in _ (by omega)) ?_
                exact JL_nil (JE_stepV rfl ss0))), OblS_V (fun vals ex ψ => (by
                refine JL_normQ ⟨99, [(75, _), (76, _), (77, _), (78, _), (79, _), (80, _), (81, _), (82, _), (83, _), (84, _), (85, _), (86, _), (87, _), (88, _), (89, _), (90, _), (91, _), (92, _), (93, _), (94, _), (95, _)], _⟩ (_ :: _ :: _ :: _ :: _ :: _ :: _ :: _ :: ψ) rfl rfl ?_
                refine JL_fieldAddr fo48_2 rfl ?_
                exact JL_nil (JE_stepV rfl ss0))), OblS_V (fun vals ex ψ => (by
                refine JL_normQ ⟨99, [(75, _), (76, _), (77, _), (78, _), (79, _), (80, _), (81, _), (82, _), (83, _), (84, _), (85, _), (86, _), (87, _), (88, _), (89, _), (90, _), (91, _), (92, _), (93, _), (94, _), (95, _)], _⟩ (_ :: _ :: _ :: _ :: _ :: _ :: _ :: _ :: ψ) rfl rfl ?_
                refine JL_load 1 ty3 rfl rfl rfl ?_
                exact JL_nil (JE_stepV rfl ss0))), OblS_V (fun vals ex ψ => (by
                refine JL_normQ ⟨99, [(75, _), (76, _), (77, _), (78, _), (79, _), (80, _), (81, _), (82, _), (83, _), (84, _), (85, _), (86, _), (87, _), (88, _), (89, _), (90, _), (91, _), (92, _), (93, _), (94, _), (95, _)], _⟩ (_ :: _ :: _ :: _ :: _ :: _ :: _ :: _ :: ψ) rfl rfl ?_
                refine JL_fieldAddr fo48_2 rfl ?_
                exact JL_nil (JE_stepV rfl ss0))), OblS_V (fun vals ex ψ => (by
                refine JL_normQ ⟨99, [(75, _), (76, _), (77, _), (78, _), (79, _), (80, _), (81, _), (82, _), (83, _), (84, _), (85, _), (86, _), (87, _), (88, _), (89, _), (90, _), (91, _), (92, _), (93, _), (94, _), (95, _)], _⟩ (_ :: _ :: _ :: _ :: _ :: _ :: _ :: _ :: ψ) rfl rfl ?_
                refine JL_load 2 ty3 rfl rfl rfl ?_
                exact JL_nil (JE_stepV rfl ss0))), OblS_V (fun vals ex ψ => (by
                refine JL_normQ ⟨99, [(75, _), (76, _), (77, _), (78, _), (79, _), (80, _), (81, _), (82, _), (83, _), (84, _), (85, _), (86, _), (87, _), (88, _), (89, _), (90, _), (91, _), (92, _), (93, _), (94, _), (95, _)], _⟩ (_ :: _ :: _ :: _ :: _ :: _ :: _ :: _ :: ψ) rfl rfl ?_
                refine JL_add_to rfl rfl (IntWalk.i64_in _ (by omega)) ?_
                exact JL_nil (JE_stepV rfl ss0))), OblS_V (fun vals ex ψ => (by
                refine JL_normQ ⟨99, [(75, _), (76, _), (77, _), (78, _), (79, _), (80, _), (81, _), (82, _), (83, _), (84, _), (85, _), (86, _), (87, _), (88, _), (89, _), (90, _), (91, _), (92, _), (93, _), (94, _), (95, _)], _⟩ (_ :: _ :: _ :: _ :: _ :: _ :: _ :: _ :: ψ) rfl rfl ?_
                refine JL_build (cs := [_, _, _]) [(0, [_]), (1, [_]), (2, [_])] st48 ⟨⟨rfl, _, rfl, rfl⟩, ⟨rfl, _, rfl, rfl⟩, ⟨rfl, _, rfl, rfl⟩, rfl⟩ rfl ?_
                exact JL_nil (JE_stepV rfl ss0))), OblS_C (fun vals ex ψ => (by
                refine JL_normQ ⟨99, [(75, _), (76, _), (77, _), (78, _), (79, _), (80, _), (81, _), (82, _), (83, _), (84, _), (85, _), (86, _), (87, _), (88, _), (89, _), (90, _), (91, _), (92, _), (93, _), (94, _), (95, _)], _⟩ (_ :: _ :: _ :: _ :: _ :: _ :: _ :: _ :: ψ) rfl rfl ?_
                refine JL_buildN (cs0 := [.int .i64 0, .int .i64 0, .int .i64 0]) (cs := [_, _, _]) [(0, [_, _, _])] sl45 (by kernel_rfl) ⟨⟨rfl, _, rfl, rfl⟩, rfl⟩ rfl rfl rfl rfl (fun g95 => ?_)
                refine JL_giveLast ?_
                exact JL_nil (JE_stepC [vCells (some ⟨g95, 0, none⟩) [.int .i64 ((a.z + t.z : Nat) : Int), .int .i64 (a.s + t.s), .int .i64 (a.w + t.w)]] rfl ⟨g95, rfl, rfl⟩ (all_cons (by repeat (first | with_reducible exact mm0 | refine mmS ?_)) all_nil) (ssS ss0)))), trivial⟩ (by kernel_rfl) (fun vals bs => ?_)
            refine JL_normL [_, _] ⟨99, [(75, _), (76, _), (77, _), (78, _), (79, _), (80, _), (81, _), (82, _), (83, _), (84, _), (85, _), (86, _), (87, _), (88, _), (89, _), (90, _), (91, _), (92, _), (93, _), (94, _), (95, _)], _⟩ [osl _ _ _ _ _ _, box _ _ [_, _, _], box _ _ [_, _, _]] [_, _, _, _, _, _, _, _, _] rfl rfl rfl rfl ?_
            generalize vals (0 + 1 + 1 + 1 + 1 + 1 + 1 + 1 + 1 + 1 + 1 + 1 + 1 + 1 + 1 + 1 + 1 + 1 + 1 + 1 + 1) = x95
            refine JL_usePost mm0 (fun φo hP => ?_)
            obtain ⟨g95, rfl, rfl⟩ := hP
            refine JL_norm _ [osl _ _ _ _ _ _, box _ _ [_, _, _], box _ _ [_, _, _]] [_, _, _, _, _, _, _, _, _, _] rfl rfl rfl ?_
            refine JL_conv (fun _ s => s.short 0 (T.length) rfl (by simp only [List.length_cons]; omega)) ?_
            refine JL_norm _ [osl _ _ _ _ _ _, box _ _ [_, _, _], box _ _ [_, _, _]] [_, _, _, _, _, _, _, _, _, _] rfl rfl rfl ?_
            rw [bcells_short T t a]
            refine JL_append (news := [_, _, _]) 0 sl45 rfl (by decide) rfl rfl rfl rfl (Reads.view (by repeat (first | with_reducible exact mm0 | refine mmS ?_))) (AllOne.cons rfl (AllOne.cons rfl (AllOne.cons rfl AllOne.nil))) (by omega) (by omega) (fun ad96 cap96 hc96 => ?_)
            refine JL_norm _ [osl _ _ _ _ _ _, box _ _ [_, _, _], box _ _ [_, _, _]] [_, _, _, _, _, _, _, _, _, _] rfl rfl rfl ?_
            rw [show bcells T.reverse ++ [.int .i64 ((a.z + t.z : Nat) : Int), .int .i64 (a.s + t.s), .int .i64 (a.w + t.w)] = bcells (mrg a t :: T).reverse from bcells_snoc T (mrg a t)]
            refine JL_assign rfl ?_
            refine JL_nil_up 99 [osl _ _ _ _ _ _, box _ _ [_, _, _], box _ _ [_, _, _]] [_, _, _, _, _, _, _, _, _, _] rfl rfl (by simp only [nrmF]; rfl) rfl rfl ?_
            refine JE_block_normal ?_
            refine JE_then ?_
            refine JC_region ?_
            refine JL_move rfl ?_
            refine JL_sub_to rfl rfl (IntWalk.i64_in _ (by simp only [List.length_cons]; omega)) ?_
            rw [show ((((a :: T).length : Nat) : Int) - 1 : Int) = (T.length : Int) from by simp only [List.length_cons]; omega]
            refine JL_assign rfl ?_
            refine JL_nil_up 99 [osl _ _ _ _ _ _, box _ _ [_, _, _], box _ _ [_, _, _]] [_, _, _, _, _, _, _, _, _, _] rfl rfl (by simp only [nrmF]; rfl) rfl rfl ?_
            refine JE_dropAt 2 ?_
            refine JE_norm _ [osl _ _ _ _ _ _, box _ _ [_, _, _]] [_, _, _, _, _, _, _, _, _, _] rfl rfl rfl ?_
            refine JE_dropAt 1 ?_
            refine JE_norm _ [osl _ _ _ _ _ _] [_, _, _, _, _, _, _, _, _, _] rfl rfl rfl ?_
            refine JE_nextS (T, mrg a t, ad96, cap96) (by kernel_rfl) ?_ ?_ (by kernel_rfl) ?_
            · exact ⟨(pushB_go h62).symm.trans hp, hT.mrg, hc96.1⟩
            · simp only [List.length_cons]; omega
            · exact subset_app subset_nil (ssS (ssS (ssS (ssS (ssS (ssS ss0))))))
          · refine JL_move rfl ?_
            refine JL_nil_up 99 [osl _ _ _ _ _ _, box _ _ [_, _, _], box _ _ [_, _, _]] [_, _, _, _, _, _, _, _] rfl rfl (by simp only [nrmF]; rfl) rfl rfl ?_
            refine JE_nextA ?_
            refine JA_step [5] (by kernel_rfl) (by simp) ⟨⟨_, rfl, ?_⟩, trivial⟩
            refine JL_move rfl ?_
            refine JL_nil_up 99 [osl _ _ _ _ _ _, box _ _ [_, _, _], box _ _ [_, _, _]] [_, _, _, _, _, _, _, _] rfl rfl (by simp only [nrmF]; rfl) rfl rfl ?_
            refine JE_nextA ?_
            refine JA_step [7] (by kernel_rfl) (by simp) ⟨⟨_, rfl, ?_⟩, trivial⟩
            refine JL_indexAddr (a :: T).length sl45 rfl rfl rfl (by simp only [List.length_cons]; omega) (Reads.own 0 rfl) (by rw [bcells_length, List.length_reverse]; simp only [List.length_cons]; omega) ?_
            refine JL_nil_up 99 [osl _ _ _ _ _ _, box _ _ [_, _, _], box _ _ [_, _, _]] [_, _, _, _, _, _, _, _] rfl rfl (by simp only [nrmF]; rfl) rfl rfl ?_
            refine JE_nextA ?_
            refine JA_step [8] (by kernel_rfl) (by simp) ⟨⟨_, rfl, ?_⟩, trivial⟩
            refine JL_loadEA (vs := [_, _, _]) ty48 (Nat.zero_lt_succ _) rfl (Reads.own 0 rfl) (bcells_topA (a :: T) t) ?_
            refine JL_nil_up 99 [osl _ _ _ _ _ _, box _ _ [_, _, _], box _ _ [_, _, _]] [_, _, _, _, _, _, _, _] rfl rfl (by simp only [nrmF]; rfl) rfl rfl ?_
            refine JE_nextA ?_
            refine JA_step [12] (by kernel_rfl) (by simp) ⟨⟨_, rfl, ?_⟩, trivial⟩
            refine JL_store (vs := [_, _, _]) 2 ty48 rfl rfl rfl (AllOne.cons rfl (AllOne.cons rfl (AllOne.cons rfl AllOne.nil))) rfl (Nat.le_of_ble_eq_true rfl) ?_
            refine JL_nil_up 99 [osl _ _ _ _ _ _, box _ _ [_, _, _], box _ _ [_, _, _]] [_, _, _, _, _, _, _, _] rfl rfl (by simp only [nrmF]; rfl) rfl rfl ?_
            refine JE_nextA ?_
            refine JA_end (by kernel_rfl) ?_
            refine JE_then ?_
            refine JC_drawT mixed 21 [spV 75 [] _, spV 76 [] _, spV 77 [1] _, spV 78 [0, 2] _, spV 79 [] _, spV 80 [4] _, spV 81 [] _, spV 82 [6] _, spV 83 [5, 7] _, spV 84 [] _, spV 85 [9] _, spV 86 [] _, spV 87 [11] _, spV 88 [10, 12] _, spV 89 [] _, spV 90 [14] _, spV 91 [] _, spV 92 [16] _, spV 93 [15, 17] _, spV 94 [8, 13, 18] (.agg #[.int .i64 ((a.z + t.z : Nat) : Int), .int .i64 (a.s + t.s), .int .i64 (a.w + t.w)]), spC 95 [19] (fun v φo => ∃ g : Nat, v = .slice (some ⟨g, 0, none⟩) 1 1 ∧ φo = [vCells (some ⟨g, 0, none⟩) [.int .i64 ((a.z + t.z : Nat) : Int), .int .i64 (a.s + t.s), .int .i64 (a.w + t.w)]])] ⟨OblS_V (fun vals ex ψ => (by
                refine JL_normQ ⟨99, [(75, _), (76, _), (77, _), (78, _), (79, _), (80, _), (81, _), (82, _), (83, _), (84, _), (85, _), (86, _), (87, _), (88, _), (89, _), (90, _), (91, _), (92, _), (93, _), (94, _), (95, _)], _⟩ (_ :: _ :: _ :: _ :: _ :: _ :: _ :: _ :: ψ) rfl rfl ?_
                refine JL_move rfl ?_
                exact JL_nil (JE_stepV rfl ss0))), OblS_V (fun vals ex ψ => (by
                refine JL_normQ ⟨99, [(75, _), (76, _), (77, _), (78, _), (79, _), (80, _), (81, _), (82, _), (83, _), (84, _), (85, _), (86, _), (87, _), (88, _), (89, _), (90, _), (91, _), (92, _), (93, _), (94, _), (95, _)], _⟩ (_ :: _ :: _ :: _ :: _ :: _ :: _ :: _ :: ψ) rfl rfl ?_
                refine JL_move rfl ?_
                exact JL_nil (JE_stepV rfl ss0))), OblS_V (fun vals ex ψ => (by
                refine JL_normQ ⟨99, [(75, _), (76, _), (77, _), (78, _), (79, _), (80, _), (81, _), (82, _), (83, _), (84, _), (85, _), (86, _), (87, _), (88, _), (89, _), (90, _), (91, _), (92, _), (93, _), (94, _), (95, _)], _⟩ (_ :: _ :: _ :: _ :: _ :: _ :: _ :: _ :: ψ) rfl rfl ?_
                refine JL_sub_to rfl rfl (IntWalk.i64_in _ (by simp only [List.length_cons]; omega)) ?_
                rw [show ((((a :: T).length : Nat) : Int) - 1 : Int) = (T.length : Int) from by simp only [List.length_cons]; omega]
                exact JL_nil (JE_stepV rfl ss0))), OblS_V (fun vals ex ψ => (by
                refine JL_normQ ⟨99, [(75, _), (76, _), (77, _), (78, _), (79, _), (80, _), (81, _), (82, _), (83, _), (84, _), (85, _), (86, _), (87, _), (88, _), (89, _), (90, _), (91, _), (92, _), (93, _), (94, _), (95, _)], _⟩ (_ :: _ :: _ :: _ :: _ :: _ :: _ :: _ :: ψ) rfl rfl ?_
                refine JL_sliceTo T.length sl45 rfl rfl rfl (by simp only [List.length_cons] at hcap; omega) ?_
                exact JL_nil (JE_stepV rfl ss0))), OblS_V (fun vals ex ψ => (by
                refine JL_normQ ⟨99, [(75, _), (76, _), (77, _), (78, _), (79, _), (80, _), (81, _), (82, _), (83, _), (84, _), (85, _), (86, _), (87, _), (88, _), (89, _), (90, _), (91, _), (92, _), (93, _), (94, _), (95, _)], _⟩ (_ :: _ :: _ :: _ :: _ :: _ :: _ :: _ :: ψ) rfl rfl ?_
                refine JL_fieldAddr fo48_0 rfl ?_
                exact JL_nil (JE_stepV rfl ss0))), OblS_V (fun vals ex ψ => (by
                refine JL_normQ ⟨99, [(75, _), (76, _), (77, _), (78, _), (79, _), (80, _), (81, _), (82, _), (83, _), (84, _), (85, _), (86, _), (87, _), (88, _), (89, _), (90, _), (91, _), (92, _), (93, _), (94, _), (95, _)], _⟩ (_ :: _ :: _ :: _ :: _ :: _ :: _ :: _ :: ψ) rfl rfl ?_
                refine JL_load 1 ty3 rfl rfl rfl ?_
                exact JL_nil (JE_stepV rfl ss0))), OblS_V (fun vals ex ψ => (by
                refine JL_normQ ⟨99, [(75, _), (76, _), (77, _), (78, _), (79, _), (80, _), (81, _), (82, _), (83, _), (84, _), (85, _), (86, _), (87, _), (88, _), (89, _), (90, _), (91, _), (92, _), (93, _), (94, _), (95, _)], _⟩ (_ :: _ :: _ :: _ :: _ :: _ :: _ :: _ :: ψ) rfl rfl ?_
                refine JL_fieldAddr fo48_0 rfl ?_
                exact JL_nil (JE_stepV rfl ss0))), OblS_V (fun vals ex ψ => (by
                refine JL_normQ ⟨99, [(75, _), (76, _), (77, _), (78, _), (79, _), (80, _), (81, _), (82, _), (83, _), (84, _), (85, _), (86, _), (87, _), (88, _), (89, _), (90, _), (91, _), (92, _), (93, _), (94, _), (95, _)], _⟩ (_ :: _ :: _ :: _ :: _ :: _ :: _ :: _ :: ψ) rfl rfl ?_
                refine JL_load 2 ty3 rfl rfl rfl ?_
                exact JL_nil (JE_stepV rfl ss0))), OblS_V (fun vals ex ψ => (by
                refine JL_normQ ⟨99, [(75, _), (76, _), (77, _), (78, _), (79, _), (80, _), (81, _), (82, _), (83, _), (84, _), (85, _), (86, _), (87, _), (88, _), (89, _), (90, _), (91, _), (92, _), (93, _), (94, _), (95, _)], _⟩ (_ :: _ :: _ :: _ :: _ :: _ :: _ :: _ :: ψ) rfl rfl ?_
                refine JL_add_to rfl rfl (IntWalk.i64_in _ (by omega)) ?_
                rw [show ((a.z : Int) + (t.z : Int) : Int) = ((a.z + t.z : Nat) : Int) from by omega]
                exact JL_nil (JE_stepV rfl ss0))), OblS_V (fun vals ex ψ => (by
                refine JL_normQ ⟨99, [(75, _), (76, _), (77, _), (78, _), (79, _), (80, _), (81, _), (82, _), (83, _), (84, _), (85, _), (86, _), (87, _), (88, _), (89, _), (90, _), (91, _), (92, _), (93, _), (94, _), (95, _)], _⟩ (_ :: _ :: _ :: _ :: _ :: _ :: _ :: _ :: ψ) rfl rfl ?_
                refine JL_fieldAddr fo48_1 rfl ?_
                exact JL_nil (JE_stepV rfl ss0))), OblS_V (fun vals ex ψ => (by
                refine JL_normQ ⟨99, [(75, _), (76, _), (77, _), (78, _), (79, _), (80, _), (81, _), (82, _), (83, _), (84, _), (85, _), (86, _), (87, _), (88, _), (89, _), (90, _), (91, _), (92, _), (93, _), (94, _), (95, _)], _⟩ (_ :: _ :: _ :: _ :: _ :: _ :: _ :: _ :: ψ) rfl rfl ?_
                refine JL_load 1 ty3 rfl rfl rfl ?_
                exact JL_nil (JE_stepV rfl ss0))), OblS_V (fun vals ex ψ => (by
                refine JL_normQ ⟨99, [(75, _), (76, _), (77, _), (78, _), (79, _), (80, _), (81, _), (82, _), (83, _), (84, _), (85, _), (86, _), (87, _), (88, _), (89, _), (90, _), (91, _), (92, _), (93, _), (94, _), (95, _)], _⟩ (_ :: _ :: _ :: _ :: _ :: _ :: _ :: _ :: ψ) rfl rfl ?_
                refine JL_fieldAddr fo48_1 rfl ?_
                exact JL_nil (JE_stepV rfl ss0))), OblS_V (fun vals ex ψ => (by
                refine JL_normQ ⟨99, [(75, _), (76, _), (77, _), (78, _), (79, _), (80, _), (81, _), (82, _), (83, _), (84, _), (85, _), (86, _), (87, _), (88, _), (89, _), (90, _), (91, _), (92, _), (93, _), (94, _), (95, _)], _⟩ (_ :: _ :: _ :: _ :: _ :: _ :: _ :: _ :: ψ) rfl rfl ?_
                refine JL_load 2 ty3 rfl rfl rfl ?_
                exact JL_nil (JE_stepV rfl ss0))), OblS_V (fun vals ex ψ => (by
                refine JL_normQ ⟨99, [(75, _), (76, _), (77, _), (78, _), (79, _), (80, _), (81, _), (82, _), (83, _), (84, _), (85, _), (86, _), (87, _), (88, _), (89, _), (90, _), (91, _), (92, _), (93, _), (94, _), (95, _)], _⟩ (_ :: _ :: _ :: _ :: _ :: _ :: _ :: _ :: ψ) rfl rfl ?_
                refine JL_add_to rfl rfl (IntWalk.i64_in _ (by omega)) ?_
                exact JL_nil (JE_stepV rfl ss0))), OblS_V (fun vals ex ψ => (by
                refine JL_normQ ⟨99, [(75, _), (76, _), (77, _), (78, _), (79, _), (80, _), (81, _), (82, _), (83, _), (84, _), (85, _), (86, _), (87, _), (88, _), (89, _), (90, _), (91, _), (92, _), (93, _), (94, _), (95, _)], _⟩ (_ :: _ :: _ :: _ :: _ :: _ :: _ :: _ :: ψ) rfl rfl ?_
                refine JL_fieldAddr fo48_2 rfl ?_
                exact JL_nil (JE_stepV rfl ss0))), OblS_V (fun vals ex ψ => (by
                refine JL_normQ ⟨99, [(75, _), (76, _), (77, _), (78, _), (79, _), (80, _), (81, _), (82, _), (83, _), (84, _), (85, _), (86, _), (87, _), (88, _), (89, _), (90, _), (91, _), (92, _), (93, _), (94, _), (95, _)], _⟩ (_ :: _ :: _ :: _ :: _ :: _ :: _ :: _ :: ψ) rfl rfl ?_
                refine JL_load 1 ty3 rfl rfl rfl ?_
                exact JL_nil (JE_stepV rfl ss0))), OblS_V (fun vals ex ψ => (by
                refine JL_normQ ⟨99, [(75, _), (76, _), (77, _), (78, _), (79, _), (80, _), (81, _), (82, _), (83, _), (84, _), (85, _), (86, _), (87, _), (88, _), (89, _), (90, _), (91, _), (92, _), (93, _), (94, _), (95, _)], _⟩ (_ :: _ :: _ :: _ :: _ :: _ :: _ :: _ :: ψ) rfl rfl ?_
                refine JL_fieldAddr fo48_2 rfl ?_
                exact JL_nil (JE_stepV rfl ss0))), OblS_V (fun vals ex ψ => (by
                refine JL_normQ ⟨99, [(75, _), (76, _), (77, _), (78, _), (79, _), (80, _), (81, _), (82, _), (83, _), (84, _), (85, _), (86, _), (87, _), (88, _), (89, _), (90, _), (91, _), (92, _), (93, _), (94, _), (95, _)], _⟩ (_ :: _ :: _ :: _ :: _ :: _ :: _ :: _ :: ψ) rfl rfl ?_
                refine JL_load 2 ty3 rfl rfl rfl ?_
                exact JL_nil (JE_stepV rfl ss0))), OblS_V (fun vals ex ψ => (by
                refine JL_normQ ⟨99, [(75, _), (76, _), (77, _), (78, _), (79, _), (80, _), (81, _), (82, _), (83, _), (84, _), (85, _), (86, _), (87, _), (88, _), (89, _), (90, _), (91, _), (92, _), (93, _), (94, _), (95, _)], _⟩ (_ :: _ :: _ :: _ :: _ :: _ :: _ :: _ :: ψ) rfl rfl ?_
                refine JL_add_to rfl rfl (IntWalk.i64_in _ (by omega)) ?_
                exact JL_nil (JE_stepV rfl ss0))), OblS_V (fun vals ex ψ => (by
                refine JL_normQ ⟨99, [(75, _), (76, _), (77, _), (78, _), (79, _), (80, _), (81, _), (82, _), (83, _), (84, _), (85, _), (86, _), (87, _), (88, _), (89, _), (90, _), (91, _), (92, _), (93, _), (94, _), (95, _)], _⟩ (_ :: _ :: _ :: _ :: _ :: _ :: _ :: _ :: ψ) rfl rfl ?_
                refine JL_build (cs := [_, _, _]) [(0, [_]), (1, [_]), (2, [_])] st48 ⟨⟨rfl, _, rfl, rfl⟩, ⟨rfl, _, rfl, rfl⟩, ⟨rfl, _, rfl, rfl⟩, rfl⟩ rfl ?_
                exact JL_nil (JE_stepV rfl ss0))), OblS_C (fun vals ex ψ => (by
                refine JL_normQ ⟨99, [(75, _), (76, _), (77, _), (78, _), (79, _), (80, _), (81, _), (82, _), (83, _), (84, _), (85, _), (86, _), (87, _), (88, _), (89, _), (90, _), (91, _), (92, _), (93, _), (94, _), (95, _)], _⟩ (_ :: _ :: _ :: _ :: _ :: _ :: _ :: _ :: ψ) rfl rfl ?_
                refine JL_buildN (cs0 := [.int .i64 0, .int .i64 0, .int .i64 0]) (cs := [_, _, _]) [(0, [_, _, _])] sl45 (by kernel_rfl) ⟨⟨rfl, _, rfl, rfl⟩, rfl⟩ rfl rfl rfl rfl (fun g95 => ?_)
                refine JL_giveLast ?_
                exact JL_nil (JE_stepC [vCells (some ⟨g95, 0, none⟩) [.int .i64 ((a.z + t.z : Nat) : Int), .int .i64 (a.s + t.s), .int .i64 (a.w + t.w)]] rfl ⟨g95, rfl, rfl⟩ (all_cons (by repeat (first | with_reducible exact mm0 | refine mmS ?_)) all_nil) (ssS ss0)))), trivial⟩ (by kernel_rfl) (fun vals bs => ?_)
            refine JL_normL [_, _] ⟨99, [(75, _), (76, _), (77, _), (78, _), (79, _), (80, _), (81, _), (82, _), (83, _), (84, _), (85, _), (86, _), (87, _), (88, _), (89, _), (90, _), (91, _), (92, _), (93, _), (94, _), (95, _)], _⟩ [osl _ _ _ _ _ _, box _ _ [_, _, _], box _ _ [_, _, _]] [_, _, _, _, _, _, _, _, _] rfl rfl rfl rfl ?_
            generalize vals (0 + 1 + 1 + 1 + 1 + 1 + 1 + 1 + 1 + 1 + 1 + 1 + 1 + 1 + 1 + 1 + 1 + 1 + 1 + 1 + 1) = x95
            refine JL_usePost mm0 (fun φo hP => ?_)
            obtain ⟨g95, rfl, rfl⟩ := hP
            refine JL_norm _ [osl _ _ _ _ _ _, box _ _ [_, _, _], box _ _ [_, _, _]] [_, _, _, _, _, _, _, _, _, _] rfl rfl rfl ?_
            refine JL_conv (fun _ s => s.short 0 (T.length) rfl (by simp only [List.length_cons]; omega)) ?_
            refine JL_norm _ [osl _ _ _ _ _ _, box _ _ [_, _, _], box _ _ [_, _, _]] [_, _, _, _, _, _, _, _, _, _] rfl rfl rfl ?_
            rw [bcells_short T t a]
            refine JL_append (news := [_, _, _]) 0 sl45 rfl (by decide) rfl rfl rfl rfl (Reads.view (by repeat (first | with_reducible exact mm0 | refine mmS ?_))) (AllOne.cons rfl (AllOne.cons rfl (AllOne.cons rfl AllOne.nil))) (by omega) (by omega) (fun ad96 cap96 hc96 => ?_)
            refine JL_norm _ [osl _ _ _ _ _ _, box _ _ [_, _, _], box _ _ [_, _, _]] [_, _, _, _, _, _, _, _, _, _] rfl rfl rfl ?_
            rw [show bcells T.reverse ++ [.int .i64 ((a.z + t.z : Nat) : Int), .int .i64 (a.s + t.s), .int .i64 (a.w + t.w)] = bcells (mrg a t :: T).reverse from bcells_snoc T (mrg a t)]
            refine JL_assign rfl ?_
            refine JL_nil_up 99 [osl _ _ _ _ _ _, box _ _ [_, _, _], box _ _ [_, _, _]] [_, _, _, _, _, _, _, _, _, _] rfl rfl (by simp only [nrmF]; rfl) rfl rfl ?_
            refine JE_block_normal ?_
            refine JE_then ?_
            refine JC_region ?_
            refine JL_move rfl ?_
            refine JL_sub_to rfl rfl (IntWalk.i64_in _ (by simp only [List.length_cons]; omega)) ?_
            rw [show ((((a :: T).length : Nat) : Int) - 1 : Int) = (T.length : Int) from by simp only [List.length_cons]; omega]
            refine JL_assign rfl ?_
            refine JL_nil_up 99 [osl _ _ _ _ _ _, box _ _ [_, _, _], box _ _ [_, _, _]] [_, _, _, _, _, _, _, _, _, _] rfl rfl (by simp only [nrmF]; rfl) rfl rfl ?_
            refine JE_dropAt 2 ?_
            refine JE_norm _ [osl _ _ _ _ _ _, box _ _ [_, _, _]] [_, _, _, _, _, _, _, _, _, _] rfl rfl rfl ?_
            refine JE_dropAt 1 ?_
            refine JE_norm _ [osl _ _ _ _ _ _] [_, _, _, _, _, _, _, _, _, _] rfl rfl rfl ?_
            refine JE_nextS (T, mrg a t, ad96, cap96) (by kernel_rfl) ?_ ?_ (by kernel_rfl) ?_
            · exact ⟨(pushB_go h62).symm.trans hp, hT.mrg, hc96.1⟩
            · simp only [List.length_cons]; omega
            · exact subset_app subset_nil (ssS (ssS (ssS (ssS (ssS (ssS ss0))))))
        · refine JL_normL [_] ⟨99, [(66, _), (67, _), (68, _), (69, _), (70, _), (71, _), (72, _), (73, _), (74, _), (8, _), (9, _)], _⟩ [osl _ _ _ _ _ _, box _ _ [_, _, _], box _ _ [_, _, _]] [_, _, _, _, _, _, _] rfl rfl rfl rfl ?_
          generalize vals (0 + 1 + 1 + 1 + 1 + 1) = x71
          generalize vals (0 + 1 + 1 + 1 + 1 + 1 + 1 + 1) = x73
          generalize vals (0 + 1 + 1 + 1 + 1 + 1 + 1 + 1 + 1) = x74
          generalize bs (0 + 1 + 1 + 1 + 1 + 1 + 1 + 1 + 1 + 1) = b8
          generalize bs (0 + 1 + 1 + 1 + 1 + 1 + 1 + 1 + 1 + 1 + 1) = b9
          refine JL_store (vs := [_, _, _]) 1 ty48 rfl rfl rfl (AllOne.cons rfl (AllOne.cons rfl (AllOne.cons rfl AllOne.nil))) rfl (Nat.le_of_ble_eq_true rfl) ?_
          refine JL_nil_up 99 [osl _ _ _ _ _ _, box _ _ [_, _, _], box _ _ [_, _, _]] [_, _, _, _, _, _, _] rfl rfl (by simp only [nrmF]; rfl) rfl rfl ?_
          refine JE_nextA ?_
          refine JA_step [5] (by kernel_rfl) (by simp) ⟨⟨_, rfl, ?_⟩, trivial⟩
          refine JL_move rfl ?_
          refine JL_nil_up 99 [osl _ _ _ _ _ _, box _ _ [_, _, _], box _ _ [_, _, _]] [_, _, _, _, _, _, _] rfl rfl (by simp only [nrmF]; rfl) rfl rfl ?_
          refine JE_nextA ?_
          refine JA_step [7] (by kernel_rfl) (by simp) ⟨⟨_, rfl, ?_⟩, trivial⟩
          refine JL_indexAddr (a :: T).length sl45 rfl rfl rfl (by simp only [List.length_cons]; omega) (Reads.own 0 rfl) (by rw [bcells_length, List.length_reverse]; simp only [List.length_cons]; omega) ?_
          refine JL_nil_up 99 [osl _ _ _ _ _ _, box _ _ [_, _, _], box _ _ [_, _, _]] [_, _, _, _, _, _, _] rfl rfl (by simp only [nrmF]; rfl) rfl rfl ?_
          refine JE_nextA ?_
          refine JA_step [8] (by kernel_rfl) (by simp) ⟨⟨_, rfl, ?_⟩, trivial⟩
          refine JL_loadEA (vs := [_, _, _]) ty48 (Nat.zero_lt_succ _) rfl (Reads.own 0 rfl) (bcells_topA (a :: T) t) ?_
          refine JL_nil_up 99 [osl _ _ _ _ _ _, box _ _ [_, _, _], box _ _ [_, _, _]] [_, _, _, _, _, _, _] rfl rfl (by simp only [nrmF]; rfl) rfl rfl ?_
          refine JE_nextA ?_
          refine JA_step [12] (by kernel_rfl) (by simp) ⟨⟨_, rfl, ?_⟩, trivial⟩
          refine JL_store (vs := [_, _, _]) 2 ty48 rfl rfl rfl (AllOne.cons rfl (AllOne.cons rfl (AllOne.cons rfl AllOne.nil))) rfl (Nat.le_of_ble_eq_true rfl) ?_
          refine JL_nil_up 99 [osl _ _ _ _ _ _, box _ _ [_, _, _], box _ _ [_, _, _]] [_, _, _, _, _, _, _] rfl rfl (by simp only [nrmF]; rfl) rfl rfl ?_
          refine JE_nextA ?_
          refine JA_end (by kernel_rfl) ?_
          refine JE_then ?_
          refine JC_drawT mixed 21 [spV 75 [] _, spV 76 [] _, spV 77 [1] _, spV 78 [0, 2] _, spV 79 [] _, spV 80 [4] _, spV 81 [] _, spV 82 [6] _, spV 83 [5, 7] _, spV 84 [] _, spV 85 [9] _, spV 86 [] _, spV 87 [11] _, spV 88 [10, 12] _, spV 89 [] _, spV 90 [14] _, spV 91 [] _, spV 92 [16] _, spV 93 [15, 17] _, spV 94 [8, 13, 18] (.agg #[.int .i64 ((a.z + t.z : Nat) : Int), .int .i64 (a.s + t.s), .int .i64 (a.w + t.w)]), spC 95 [19] (fun v φo => ∃ g : Nat, v = .slice (some ⟨g, 0, none⟩) 1 1 ∧ φo = [vCells (some ⟨g, 0, none⟩) [.int .i64 ((a.z + t.z : Nat) : Int), .int .i64 (a.s + t.s), .int .i64 (a.w + t.w)]])] ⟨OblS_V (fun vals ex ψ => (by
              refine JL_normQ ⟨99, [(75, _), (76, _), (77, _), (78, _), (79, _), (80, _), (81, _), (82, _), (83, _), (84, _), (85, _), (86, _), (87, _), (88, _), (89, _), (90, _), (91, _), (92, _), (93, _), (94, _), (95, _)], _⟩ (_ :: _ :: _ :: _ :: _ :: _ :: _ :: ψ) rfl rfl ?_
              refine JL_move rfl ?_
              exact JL_nil (JE_stepV rfl ss0))), OblS_V (fun vals ex ψ => (by
              refine JL_normQ ⟨99, [(75, _), (76, _), (77, _), (78, _), (79, _), (80, _), (81, _), (82, _), (83, _), (84, _), (85, _), (86, _), (87, _), (88, _), (89, _), (90, _), (91, _), (92, _), (93, _), (94, _), (95, _)], _⟩ (_ :: _ :: _ :: _ :: _ :: _ :: _ :: ψ) rfl rfl ?_
              refine JL_move rfl ?_
              exact JL_nil (JE_stepV rfl ss0))), OblS_V (fun vals ex ψ => (by
              refine JL_normQ ⟨99, [(75, _), (76, _), (77, _), (78, _), (79, _), (80, _), (81, _), (82, _), (83, _), (84, _), (85, _), (86, _), (87, _), (88, _), (89, _), (90, _), (91, _), (92, _), (93, _), (94, _), (95, _)], _⟩ (_ :: _ :: _ :: _ :: _ :: _ :: _ :: ψ) rfl rfl ?_
              refine JL_sub_to rfl rfl (IntWalk.i64_in _ (by simp only [List.length_cons]; omega)) ?_
              rw [show ((((a :: T).length : Nat) : Int) - 1 : Int) = (T.length : Int) from by simp only [List.length_cons]; omega]
              exact JL_nil (JE_stepV rfl ss0))), OblS_V (fun vals ex ψ => (by
              refine JL_normQ ⟨99, [(75, _), (76, _), (77, _), (78, _), (79, _), (80, _), (81, _), (82, _), (83, _), (84, _), (85, _), (86, _), (87, _), (88, _), (89, _), (90, _), (91, _), (92, _), (93, _), (94, _), (95, _)], _⟩ (_ :: _ :: _ :: _ :: _ :: _ :: _ :: ψ) rfl rfl ?_
              refine JL_sliceTo T.length sl45 rfl rfl rfl (by simp only [List.length_cons] at hcap; omega) ?_
              exact JL_nil (JE_stepV rfl ss0))), OblS_V (fun vals ex ψ => (by
              refine JL_normQ ⟨99, [(75, _), (76, _), (77, _), (78, _), (79, _), (80, _), (81, _), (82, _), (83, _), (84, _), (85, _), (86, _), (87, _), (88, _), (89, _), (90, _), (91, _), (92, _), (93, _), (94, _), (95, _)], _⟩ (_ :: _ :: _ :: _ :: _ :: _ :: _ :: ψ) rfl rfl ?_
              refine JL_fieldAddr fo48_0 rfl ?_
              exact JL_nil (JE_stepV rfl ss0))), OblS_V (fun vals ex ψ => (by
              refine JL_normQ ⟨99, [(75, _), (76, _), (77, _), (78, _), (79, _), (80, _), (81, _), (82, _), (83, _), (84, _), (85, _), (86, _), (87, _), (88, _), (89, _), (90, _), (91, _), (92, _), (93, _), (94, _), (95, _)], _⟩ (_ :: _ :: _ :: _ :: _ :: _ :: _ :: ψ) rfl rfl ?_
              refine JL_load 1 ty3 rfl rfl rfl ?_
              exact JL_nil (JE_stepV rfl ss0))), OblS_V (fun vals ex ψ => (by
              refine JL_normQ ⟨99, [(75, _), (76, _), (77, _), (78, _), (79, _), (80, _), (81, _), (82, _), (83, _), (84, _), (85, _), (86, _), (87, _), (88, _), (89, _), (90, _), (91, _), (92, _), (93, _), (94, _), (95, _)], _⟩ (_ :: _ :: _ :: _ :: _ :: _ :: _ :: ψ) rfl rfl ?_
              refine JL_fieldAddr fo48_0 rfl ?_
              exact JL_nil (JE_stepV rfl ss0))), OblS_V (fun vals ex ψ => (by
              refine JL_normQ ⟨99, [(75, _), (76, _), (77, _), (78, _), (79, _), (80, _), (81, _), (82, _), (83, _), (84, _), (85, _), (86, _), (87, _), (88, _), (89, _), (90, _), (91, _), (92, _), (93, _), (94, _), (95, _)], _⟩ (_ :: _ :: _ :: _ :: _ :: _ :: _ :: ψ) rfl rfl ?_
              refine JL_load 2 ty3 rfl rfl rfl ?_
              exact JL_nil (JE_stepV rfl ss0))), OblS_V (fun vals ex ψ => (by
              refine JL_normQ ⟨99, [(75, _), (76, _), (77, _), (78, _), (79, _), (80, _), (81, _), (82, _), (83, _), (84, _), (85, _), (86, _), (87, _), (88, _), (89, _), (90, _), (91, _), (92, _), (93, _), (94, _), (95, _)], _⟩ (_ :: _ :: _ :: _ :: _ :: _ :: _ :: ψ) rfl rfl ?_
              refine JL_add_to rfl rfl (IntWalk.i64_in _ (by omega)) ?_
              rw [show ((a.z : Int) + (t.z : Int) : Int) = ((a.z + t.z : Nat) : Int) from by omega]
              exact JL_nil (JE_stepV rfl ss0))), OblS_V (fun vals ex ψ => (by
              refine JL_normQ ⟨99, [(75, _), (76, _), (77, _), (78, _), (79, _), (80, _), (81, _), (82, _), (83, _), (84, _), (85, _), (86, _), (87, _), (88, _), (89, _), (90, _), (91, _), (92, _), (93, _), (94, _), (95, _)], _⟩ (_ :: _ :: _ :: _ :: _ :: _ :: _ :: ψ) rfl rfl ?_
              refine JL_fieldAddr fo48_1 rfl ?_
              exact JL_nil (JE_stepV rfl ss0))), OblS_V (fun vals ex ψ => (by
              refine JL_normQ ⟨99, [(75, _), (76, _), (77, _), (78, _), (79, _), (80, _), (81, _), (82, _), (83, _), (84, _), (85, _), (86, _), (87, _), (88, _), (89, _), (90, _), (91, _), (92, _), (93, _), (94, _), (95, _)], _⟩ (_ :: _ :: _ :: _ :: _ :: _ :: _ :: ψ) rfl rfl ?_
              refine JL_load 1 ty3 rfl rfl rfl ?_
              exact JL_nil (JE_stepV rfl ss0))), OblS_V (fun vals ex ψ => (by
              refine JL_normQ ⟨99, [(75, _), (76, _), (77, _), (78, _), (79, _), (80, _), (81, _), (82, _), (83, _), (84, _), (85, _), (86, _), (87, _), (88, _), (89, _), (90, _), (91, _), (92, _), (93, _), (94, _), (95, _)], _⟩ (_ :: _ :: _ :: _ :: _ :: _ :: _ :: ψ) rfl rfl ?_
              refine JL_fieldAddr fo48_1 rfl ?_
              exact JL_nil (JE_stepV rfl ss0))), OblS_V (fun vals ex ψ => (by
              refine JL_normQ ⟨99, [(75, _), (76, _), (77, _), (78, _), (79, _), (80, _), (81, _), (82, _), (83, _), (84, _), (85, _), (86, _), (87, _), (88, _), (89, _), (90, _), (91, _), (92, _), (93, _), (94, _), (95, _)], _⟩ (_ :: _ :: _ :: _ :: _ :: _ :: _ :: ψ) rfl rfl ?_
              refine JL_load 2 ty3 rfl rfl rfl ?_
              exact JL_nil (JE_stepV rfl ss0))), OblS_V (fun vals ex ψ => (by
              refine JL_normQ ⟨99, [(75, _), (76, _), (77, _), (78, _), (79, _), (80, _), (81, _), (82, _), (83, _), (84, _), (85, _), (86, _), (87, _), (88, _), (89, _), (90, _), (91, _), (92, _), (93, _), (94, _), (95, _)], _⟩ (_ :: _ :: _ :: _ :: _ :: _ :: _ :: ψ) rfl rfl ?_
              refine JL_add_to rfl rfl (IntWalk.i64_in _ (by omega)) ?_
              exact JL_nil (JE_stepV rfl ss0))), OblS_V (fun vals ex ψ => (by
              refine JL_normQ ⟨99, [(75, _), (76, _), (77, _), (78, _), (79, _), (80, _), (81, _), (82, _), (83, _), (84, _), (85, _), (86, _), (87, _), (88, _), (89, _), (90, _), (91, _), (92, _), (93, _), (94, _), (95, _)], _⟩ (_ :: _ :: _ :: _ :: _ :: _ :: _ :: ψ) rfl rfl ?_
              refine JL_fieldAddr fo48_2 rfl ?_
              exact JL_nil (JE_stepV rfl ss0))), OblS_V (fun vals ex ψ => (by
              refine JL_normQ ⟨99, [(75, _), (76, _), (77, _), (78, _), (79, _), (80, _), (81, _), (82, _), (83, _), (84, _), (85, _), (86, _), (87, _), (88, _), (89, _), (90, _), (91, _), (92, _), (93, _), (94, _), (95, _)], _⟩ (_ :: _ :: _ :: _ :: _ :: _ :: _ :: ψ) rfl rfl ?_
              refine JL_load 1 ty3 rfl rfl rfl ?_
              exact JL_nil (JE_stepV rfl ss0))), OblS_V (fun vals ex ψ => (by
              refine JL_normQ ⟨99, [(75, _), (76, _), (77, _), (78, _), (79, _), (80, _), (81, _), (82, _), (83, _), (84, _), (85, _), (86, _), (87, _), (88, _), (89, _), (90, _), (91, _), (92, _), (93, _), (94, _), (95, _)], _⟩ (_ :: _ :: _ :: _ :: _ :: _ :: _ :: ψ) rfl rfl ?_
              refine JL_fieldAddr fo48_2 rfl ?_
              exact JL_nil (JE_stepV rfl ss0))), OblS_V (fun vals ex ψ => (by
              refine JL_normQ ⟨99, [(75, _), (76, _), (77, _), (78, _), (79, _), (80, _), (81, _), (82, _), (83, _), (84, _), (85, _), (86, _), (87, _), (88, _), (89, _), (90, _), (91, _), (92, _), (93, _), (94, _), (95, _)], _⟩ (_ :: _ :: _ :: _ :: _ :: _ :: _ :: ψ) rfl rfl ?_
              refine JL_load 2 ty3 rfl rfl rfl ?_
              exact JL_nil (JE_stepV rfl ss0))), OblS_V (fun vals ex ψ => (by
              refine JL_normQ ⟨99, [(75, _), (76, _), (77, _), (78, _), (79, _), (80, _), (81, _), (82, _), (83, _), (84, _), (85, _), (86, _), (87, _), (88, _), (89, _), (90, _), (91, _), (92, _), (93, _), (94, _), (95, _)], _⟩ (_ :: _ :: _ :: _ :: _ :: _ :: _ :: ψ) rfl rfl ?_
              refine JL_add_to rfl rfl (IntWalk.i64_in _ (by omega)) ?_
              exact JL_nil (JE_stepV rfl ss0))), OblS_V (fun vals ex ψ => (by
              refine JL_normQ ⟨99, [(75, _), (76, _), (77, _), (78, _), (79, _), (80, _), (81, _), (82, _), (83, _), (84, _), (85, _), (86, _), (87, _), (88, _), (89, _), (90, _), (91, _), (92, _), (93, _), (94, _), (95, _)], _⟩ (_ :: _ :: _ :: _ :: _ :: _ :: _ :: ψ) rfl rfl ?_
              refine JL_build (cs := [_, _, _]) [(0, [_]), (1, [_]), (2, [_])] st48 ⟨⟨rfl, _, rfl, rfl⟩, ⟨rfl, _, rfl, rfl⟩, ⟨rfl, _, rfl, rfl⟩, rfl⟩ rfl ?_
              exact JL_nil (JE_stepV rfl ss0))), OblS_C (fun vals ex ψ => (by
              refine JL_normQ ⟨99, [(75, _), (76, _), (77, _), (78, _), (79, _), (80, _), (81, _), (82, _), (83, _), (84, _), (85, _), (86, _), (87, _), (88, _), (89, _), (90, _), (91, _), (92, _), (93, _), (94, _), (95, _)], _⟩ (_ :: _ :: _ :: _ :: _ :: _ :: _ :: ψ) rfl rfl ?_
              refine JL_buildN (cs0 := [.int .i64 0, .int .i64 0, .int .i64 0]) (cs := [_, _, _]) [(0, [_, _, _])] sl45 (by kernel_rfl) ⟨⟨rfl, _, rfl, rfl⟩, rfl⟩ rfl rfl rfl rfl (fun g95 => ?_)
              refine JL_giveLast ?_
              exact JL_nil (JE_stepC [vCells (some ⟨g95, 0, none⟩) [.int .i64 ((a.z + t.z : Nat) : Int), .int .i64 (a.s + t.s), .int .i64 (a.w + t.w)]] rfl ⟨g95, rfl, rfl⟩ (all_cons (by repeat (first | with_reducible exact mm0 | refine mmS ?_)) all_nil) (ssS ss0)))), trivial⟩ (by kernel_rfl) (fun vals bs => ?_)
          refine JL_normL [_, _] ⟨99, [(75, _), (76, _), (77, _), (78, _), (79, _), (80, _), (81, _), (82, _), (83, _), (84, _), (85, _), (86, _), (87, _), (88, _), (89, _), (90, _), (91, _), (92, _), (93, _), (94, _), (95, _)], _⟩ [osl _ _ _ _ _ _, box _ _ [_, _, _], box _ _ [_, _, _]] [_, _, _, _, _, _, _, _] rfl rfl rfl rfl ?_
          generalize vals (0 + 1 + 1 + 1 + 1 + 1 + 1 + 1 + 1 + 1 + 1 + 1 + 1 + 1 + 1 + 1 + 1 + 1 + 1 + 1 + 1) = x95
          refine JL_usePost mm0 (fun φo hP => ?_)
          obtain ⟨g95, rfl, rfl⟩ := hP
          refine JL_norm _ [osl _ _ _ _ _ _, box _ _ [_, _, _], box _ _ [_, _, _]] [_, _, _, _, _, _, _, _, _] rfl rfl rfl ?_
          refine JL_conv (fun _ s => s.short 0 (T.length) rfl (by simp only [List.length_cons]; omega)) ?_
          refine JL_norm _ [osl _ _ _ _ _ _, box _ _ [_, _, _], box _ _ [_, _, _]] [_, _, _, _, _, _, _, _, _] rfl rfl rfl ?_
          rw [bcells_short T t a]
          refine JL_append (news := [_, _, _]) 0 sl45 rfl (by decide) rfl rfl rfl rfl (Reads.view (by repeat (first | with_reducible exact mm0 | refine mmS ?_))) (AllOne.cons rfl (AllOne.cons rfl (AllOne.cons rfl AllOne.nil))) (by omega) (by omega) (fun ad96 cap96 hc96 => ?_)
          refine JL_norm _ [osl _ _ _ _ _ _, box _ _ [_, _, _], box _ _ [_, _, _]] [_, _, _, _, _, _, _, _, _] rfl rfl rfl ?_
          rw [show bcells T.reverse ++ [.int .i64 ((a.z + t.z : Nat) : Int), .int .i64 (a.s + t.s), .int .i64 (a.w + t.w)] = bcells (mrg a t :: T).reverse from bcells_snoc T (mrg a t)]
          refine JL_assign rfl ?_
          refine JL_nil_up 99 [osl _ _ _ _ _ _, box _ _ [_, _, _], box _ _ [_, _, _]] [_, _, _, _, _, _, _, _, _] rfl rfl (by simp only [nrmF]; rfl) rfl rfl ?_
          refine JE_block_normal ?_
          refine JE_then ?_
          refine JC_region ?_
          refine JL_move rfl ?_
          refine JL_sub_to rfl rfl (IntWalk.i64_in _ (by simp only [List.length_cons]; omega)) ?_
          rw [show ((((a :: T).length : Nat) : Int) - 1 : Int) = (T.length : Int) from by simp only [List.length_cons]; omega]
          refine JL_assign rfl ?_
          refine JL_nil_up 99 [osl _ _ _ _ _ _, box _ _ [_, _, _], box _ _ [_, _, _]] [_, _, _, _, _, _, _, _, _] rfl rfl (by simp only [nrmF]; rfl) rfl rfl ?_
          refine JE_dropAt 2 ?_
          refine JE_norm _ [osl _ _ _ _ _ _, box _ _ [_, _, _]] [_, _, _, _, _, _, _, _, _] rfl rfl rfl ?_
          refine JE_dropAt 1 ?_
          refine JE_norm _ [osl _ _ _ _ _ _] [_, _, _, _, _, _, _, _, _] rfl rfl rfl ?_
          refine JE_nextS (T, mrg a t, ad96, cap96) (by kernel_rfl) ?_ ?_ (by kernel_rfl) ?_
          · exact ⟨(pushB_go h62).symm.trans hp, hT.mrg, hc96.1⟩
          · simp only [List.length_cons]; omega
          · exact subset_app subset_nil (ssS (ssS (ssS (ssS (ssS ss0)))))
        · refine JL_normL [_] ⟨99, [(66, _), (67, _), (68, _), (69, _), (70, _), (71, _), (72, _), (73, _), (74, _), (8, _), (9, _)], _⟩ [osl _ _ _ _ _ _, box _ _ [_, _, _], box _ _ [_, _, _]] [_, _, _, _, _, _, _] rfl rfl rfl rfl ?_
          generalize vals (0 + 1 + 1 + 1 + 1 + 1 + 1) = x72
          generalize vals (0 + 1 + 1 + 1 + 1 + 1 + 1 + 1) = x73
          generalize vals (0 + 1 + 1 + 1 + 1 + 1 + 1 + 1 + 1) = x74
          generalize bs (0 + 1 + 1 + 1 + 1 + 1 + 1 + 1 + 1 + 1) = b8
          generalize bs (0 + 1 + 1 + 1 + 1 + 1 + 1 + 1 + 1 + 1 + 1) = b9
          refine JL_store (vs := [_, _, _]) 1 ty48 rfl rfl rfl (AllOne.cons rfl (AllOne.cons rfl (AllOne.cons rfl AllOne.nil))) rfl (Nat.le_of_ble_eq_true rfl) ?_
          refine JL_nil_up 99 [osl _ _ _ _ _ _, box _ _ [_, _, _], box _ _ [_, _, _]] [_, _, _, _, _, _, _] rfl rfl (by simp only [nrmF]; rfl) rfl rfl ?_
          refine JE_nextA ?_
          refine JA_step [6] (by kernel_rfl) (by simp) ⟨⟨_, rfl, ?_⟩, trivial⟩
          refine JL_move rfl ?_
          refine JL_nil_up 99 [osl _ _ _ _ _ _, box _ _ [_, _, _], box _ _ [_, _, _]] [_, _, _, _, _, _, _] rfl rfl (by simp only [nrmF]; rfl) rfl rfl ?_
          refine JE_nextA ?_
          refine JA_step [7] (by kernel_rfl) (by simp) ⟨⟨_, rfl, ?_⟩, trivial⟩
          refine JL_indexAddr (a :: T).length sl45 rfl rfl rfl (by simp only [List.length_cons]; omega) (Reads.own 0 rfl) (by rw [bcells_length, List.length_reverse]; simp only [List.length_cons]; omega) ?_
          refine JL_nil_up 99 [osl _ _ _ _ _ _, box _ _ [_, _, _], box _ _ [_, _, _]] [_, _, _, _, _, _, _] rfl rfl (by simp only [nrmF]; rfl) rfl rfl ?_
          refine JE_nextA ?_
          refine JA_step [8] (by kernel_rfl) (by simp) ⟨⟨_, rfl, ?_⟩, trivial⟩
          refine JL_loadEA (vs := [_, _, _]) ty48 (Nat.zero_lt_succ _) rfl (Reads.own 0 rfl) (bcells_topA (a :: T) t) ?_
          refine JL_nil_up 99 [osl _ _ _ _ _ _, box _ _ [_, _, _], box _ _ [_, _, _]] [_, _, _, _, _, _, _] rfl rfl (by simp only [nrmF]; rfl) rfl rfl ?_
          refine JE_nextA ?_
          refine JA_step [12] (by kernel_rfl) (by simp) ⟨⟨_, rfl, ?_⟩, trivial⟩
          refine JL_store (vs := [_, _, _]) 2 ty48 rfl rfl rfl (AllOne.cons rfl (AllOne.cons rfl (AllOne.cons rfl AllOne.nil))) rfl (Nat.le_of_ble_eq_true rfl) ?_
          refine JL_nil_up 99 [osl _ _ _ _ _ _, box _ _ [_, _, _], box _ _ [_, _, _]] [_, _, _, _, _, _, _] rfl rfl (by simp only [nrmF]; rfl) rfl rfl ?_
          refine JE_nextA ?_
          refine JA_end (by kernel_rfl) ?_
          refine JE_then ?_
          refine JC_drawT mixed 21 [spV 75 [] _, spV 76 [] _, spV 77 [1] _, spV 78 [0, 2] _, spV 79 [] _, spV 80 [4] _, spV 81 [] _, spV 82 [6] _, spV 83 [5, 7] _, spV 84 [] _, spV 85 [9] _, spV 86 [] _, spV 87 [11] _, spV 88 [10, 12] _, spV 89 [] _, spV 90 [14] _, spV 91 [] _, spV 92 [16] _, spV 93 [15, 17] _, spV 94 [8, 13, 18] (.agg #[.int .i64 ((a.z + t.z : Nat) : Int), .int .i64 (a.s + t.s), .int .i64 (a.w + t.w)]), spC 95 [19] (fun v φo => ∃ g : Nat, v = .slice (some ⟨g, 0, none⟩) 1 1 ∧ φo = [vCells (some ⟨g, 0, none⟩) [.int .i64 ((a.z + t.z : Nat) : Int), .int .i64 (a.s + t.s), .int .i64 (a.w + t.w)]])] ⟨OblS_V (fun vals ex ψ => (by
              refine JL_normQ ⟨99, [(75, _), (76, _), (77, _), (78, _), (79, _), (80, _), (81, _), (82, _), (83, _), (84, _), (85, _), (86, _), (87, _), (88, _), (89, _), (90, _), (91, _), (92, _), (93, _), (94, _), (95, _)], _⟩ (_ :: _ :: _ :: _ :: _ :: _ :: _ :: ψ) rfl rfl ?_
              refine JL_move rfl ?_
              exact JL_nil (JE_stepV rfl ss0))), OblS_V (fun vals ex ψ => (by
              refine JL_normQ ⟨99, [(75, _), (76, _), (77, _), (78, _), (79, _), (80, _), (81, _), (82, _), (83, _), (84, _), (85, _), (86, _), (87, _), (88, _), (89, _), (90, _), (91, _), (92, _), (93, _), (94, _), (95, _)], _⟩ (_ :: _ :: _ :: _ :: _ :: _ :: _ :: ψ) rfl rfl ?_
              refine JL_move rfl ?_
              exact JL_nil (JE_stepV rfl ss0))), OblS_V (fun vals ex ψ => (by
              refine JL_normQ ⟨99, [(75, _), (76, _), (77, _), (78, _), (79, _), (80, _), (81, _), (82, _), (83, _), (84, _), (85, _), (86, _), (87, _), (88, _), (89, _), (90, _), (91, _), (92, _), (93, _), (94, _), (95, _)], _⟩ (_ :: _ :: _ :: _ :: _ :: _ :: _ :: ψ) rfl rfl ?_
              refine JL_sub_to rfl rfl (IntWalk.i64_in _ (by simp only [List.length_cons]; omega)) ?_
              rw [show ((((a :: T).length : Nat) : Int) - 1 : Int) = (T.length : Int) from by simp only [List.length_cons]; omega]
              exact JL_nil (JE_stepV rfl ss0))), OblS_V (fun vals ex ψ => (by
              refine JL_normQ ⟨99, [(75, _), (76, _), (77, _), (78, _), (79, _), (80, _), (81, _), (82, _), (83, _), (84, _), (85, _), (86, _), (87, _), (88, _), (89, _), (90, _), (91, _), (92, _), (93, _), (94, _), (95, _)], _⟩ (_ :: _ :: _ :: _ :: _ :: _ :: _ :: ψ) rfl rfl ?_
              refine JL_sliceTo T.length sl45 rfl rfl rfl (by simp only [List.length_cons] at hcap; omega) ?_
              exact JL_nil (JE_stepV rfl ss0))), OblS_V (fun vals ex ψ => (by
              refine JL_normQ ⟨99, [(75, _), (76, _), (77, _), (78, _), (79, _), (80, _), (81, _), (82, _), (83, _), (84, _), (85, _), (86, _), (87, _), (88, _), (89, _), (90, _), (91, _), (92, _), (93, _), (94, _), (95, _)], _⟩ (_ :: _ :: _ :: _ :: _ :: _ :: _ :: ψ) rfl rfl ?_
              refine JL_fieldAddr fo48_0 rfl ?_
              exact JL_nil (JE_stepV rfl ss0))), OblS_V (fun vals ex ψ => (by
              refine JL_normQ ⟨99, [(75, _), (76, _), (77, _), (78, _), (79, _), (80, _), (81, _), (82, _), (83, _), (84, _), (85, _), (86, _), (87, _), (88, _), (89, _), (90, _), (91, _), (92, _), (93, _), (94, _), (95, _)], _⟩ (_ :: _ :: _ :: _ :: _ :: _ :: _ :: ψ) rfl rfl ?_
              refine JL_load 1 ty3 rfl rfl rfl ?_
              exact JL_nil (JE_stepV rfl ss0))), OblS_V (fun vals ex ψ => (by
              refine JL_normQ ⟨99, [(75, _), (76, _), (77, _), (78, _), (79, _), (80, _), (81, _), (82, _), (83, _), (84, _), (85, _), (86, _), (87, _), (88, _), (89, _), (90, _), (91, _), (92, _), (93, _), (94, _), (95, _)], _⟩ (_ :: _ :: _ :: _ :: _ :: _ :: _ :: ψ) rfl rfl ?_
              refine JL_fieldAddr fo48_0 rfl ?_
              exact JL_nil (JE_stepV rfl ss0))), OblS_V (fun vals ex ψ => (by
              refine JL_normQ ⟨99, [(75, _), (76, _), (77, _), (78, _), (79, _), (80, _), (81, _), (82, _), (83, _), (84, _), (85, _), (86, _), (87, _), (88, _), (89, _), (90, _), (91, _), (92, _), (93, _), (94, _), (95, _)], _⟩ (_ :: _ :: _ :: _ :: _ :: _ :: _ :: ψ) rfl rfl ?_
              refine JL_load 2 ty3 rfl rfl rfl ?_
              exact JL_nil (JE_stepV rfl ss0))), OblS_V (fun vals ex ψ => (by
              refine JL_normQ ⟨99, [(75, _), (76, _), (77, _), (78, _), (79, _), (80, _), (81, _), (82, _), (83, _), (84, _), (85, _), (86, _), (87, _), (88, _), (89, _), (90, _), (91, _), (92, _), (93, _), (94, _), (95, _)], _⟩ (_ :: _ :: _ :: _ :: _ :: _ :: _ :: ψ) rfl rfl ?_
              refine JL_add_to rfl rfl (IntWalk.i64_in _ (by omega)) ?_
              rw [show ((a.z : Int) + (t.z : Int) : Int) = ((a.z + t.z : Nat) : Int) from by omega]
              exact JL_nil (JE_stepV rfl ss0))), OblS_V (fun vals ex ψ => (by
              refine JL_normQ ⟨99, [(75, _), (76, _), (77, _), (78, _), (79, _), (80, _), (81, _), (82, _), (83, _), (84, _), (85, _), (86, _), (87, _), (88, _), (89, _), (90, _), (91, _), (92, _), (93, _), (94, _), (95, _)], _⟩ (_ :: _ :: _ :: _ :: _ :: _ :: _ :: ψ) rfl rfl ?_
              refine JL_fieldAddr fo48_1 rfl ?_
              exact JL_nil (JE_stepV rfl ss0))), OblS_V (fun vals ex ψ => (by
              refine JL_normQ ⟨99, [(75, _), (76, _), (77, _), (78, _), (79, _), (80, _), (81, _), (82, _), (83, _), (84, _), (85, _), (86, _), (87, _), (88, _), (89, _), (90, _), (91, _), (92, _), (93, _), (94, _), (95, _)], _⟩ (_ :: _ :: _ :: _ :: _ :: _ :: _ :: ψ) rfl rfl ?_
              refine JL_load 1 ty3 rfl rfl rfl ?_
              exact JL_nil (JE_stepV rfl ss0))), OblS_V (fun vals ex ψ => (by
              refine JL_normQ ⟨99, [(75, _), (76, _), (77, _), (78, _), (79, _), (80, _), (81, _), (82, _), (83, _), (84, _), (85, _), (86, _), (87, _), (88, _), (89, _), (90, _), (91, _), (92, _), (93, _), (94, _), (95, _)], _⟩ (_ :: _ :: _ :: _ :: _ :: _ :: _ :: ψ) rfl rfl ?_
              refine JL_fieldAddr fo48_1 rfl ?_
              exact JL_nil (JE_stepV rfl ss0))), OblS_V (fun vals ex ψ => (by
              refine JL_normQ ⟨99, [(75, _), (76, _), (77, _), (78, _), (79, _), (80, _), (81, _), (82, _), (83, _), (84, _), (85, _), (86, _), (87, _), (88, _), (89, _), (90, _), (91, _), (92, _), (93, _), (94, _), (95, _)], _⟩ (_ :: _ :: _ :: _ :: _ :: _ :: _ :: ψ) rfl rfl ?_
              refine JL_load 2 ty3 rfl rfl rfl ?_
              exact JL_nil (JE_stepV rfl ss0))), OblS_V (fun vals ex ψ => (by
              refine JL_normQ ⟨99, [(75, _), (76, _), (77, _), (78, _), (79, _), (80, _), (81, _), (82, _), (83, _), (84, _), (85, _), (86, _), (87, _), (88, _), (89, _), (90, _), (91, _), (92, _), (93, _), (94, _), (95, _)], _⟩ (_ :: _ :: _ :: _ :: _ :: _ :: _ :: ψ) rfl rfl ?_
              refine JL_add_to rfl rfl (IntWalk.i64_in _ (by omega)) ?_
              exact JL_nil (JE_stepV rfl ss0))), OblS_V (fun vals ex ψ => (by
              refine JL_normQ ⟨99, [(75, _), (76, _), (77, _), (78, _), (79, _), (80, _), (81, _), (82, _), (83, _), (84, _), (85, _), (86, _), (87, _), (88, _), (89, _), (90, _), (91, _), (92, _), (93, _), (94, _), (95, _)], _⟩ (_ :: _ :: _ :: _ :: _ :: _ :: _ :: ψ) rfl rfl ?_
              refine JL_fieldAddr fo48_2 rfl ?_
              exact JL_nil (JE_stepV rfl ss0))), OblS_V (fun vals ex ψ => (by
              refine JL_normQ ⟨99, [(75, _), (76, _), (77, _), (78, _), (79, _), (80, _), (81, _), (82, _), (83, _), (84, _), (85, _), (86, _), (87, _), (88, _), (89, _), (90, _), (91, _), (92, _), (93, _), (94, _), (95, _)], _⟩ (_ :: _ :: _ :: _ :: _ :: _ :: _ :: ψ) rfl rfl ?_
              refine JL_load 1 ty3 rfl rfl rfl ?_
              exact JL_nil (JE_stepV rfl ss0))), OblS_V (fun vals ex ψ => (by
              refine JL_normQ ⟨99, [(75, _), (76, _), (77, _), (78, _), (79, _), (80, _), (81, _), (82, _), (83, _), (84, _), (85, _), (86, _), (87, _), (88, _), (89, _), (90, _), (91, _), (92, _), (93, _), (94, _), (95, _)], _⟩ (_ :: _ :: _ :: _ :: _ :: _ :: _ :: ψ) rfl rfl ?_
              refine JL_fieldAddr fo48_2 rfl ?_
              exact JL_nil (JE_stepV rfl ss0))), OblS_V (fun vals ex ψ => (by
              refine JL_normQ ⟨99, [(75, _), (76, _), (77, _), (78, _), (79, _), (80, _), (81, _), (82, _), (83, _), (84, _), (85, _), (86, _), (87, _), (88, _), (89, _), (90, _), (91, _), (92, _), (93, _), (94, _), (95, _)], _⟩ (_ :: _ :: _ :: _ :: _ :: _ :: _ :: ψ) rfl rfl ?_
              refine JL_load 2 ty3 rfl rfl rfl ?_
              exact JL_nil (JE_stepV rfl ss0))), OblS_V (fun vals ex ψ => (by
              refine JL_normQ ⟨99, [(75, _), (76, _), (77, _), (78, _), (79, _), (80, _), (81, _), (82, _), (83, _), (84, _), (85, _), (86, _), (87, _), (88, _), (89, _), (90, _), (91, _), (92, _), (93, _), (94, _), (95, _)], _⟩ (_ :: _ :: _ :: _ :: _ :: _ :: _ :: ψ) rfl rfl ?_
              refine JL_add_to rfl rfl (IntWalk.i64_in _ (by omega)) ?_
              exact JL_nil (JE_stepV rfl ss0))), OblS_V (fun vals ex ψ => (by
              refine JL_normQ ⟨99, [(75, _), (76, _), (77, _), (78, _), (79, _), (80, _), (81, _), (82, _), (83, _), (84, _), (85, _), (86, _), (87, _), (88, _), (89, _), (90, _), (91, _), (92, _), (93, _), (94, _), (95, _)], _⟩ (_ :: _ :: _ :: _ :: _ :: _ :: _ :: ψ) rfl rfl ?_
              refine JL_build (cs := [_, _, _]) [(0, [_]), (1, [_]), (2, [_])] st48 ⟨⟨rfl, _, rfl, rfl⟩, ⟨rfl, _, rfl, rfl⟩, ⟨rfl, _, rfl, rfl⟩, rfl⟩ rfl ?_
              exact JL_nil (JE_stepV rfl ss0))), OblS_C (fun vals ex ψ => (by
              refine JL_normQ ⟨99, [(75, _), (76, _), (77, _), (78, _), (79, _), (80, _), (81, _), (82, _), (83, _), (84, _), (85, _), (86, _), (87, _), (88, _), (89, _), (90, _), (91, _), (92, _), (93, _), (94, _), (95, _)], _⟩ (_ :: _ :: _ :: _ :: _ :: _ :: _ :: ψ) rfl rfl ?_
              refine JL_buildN (cs0 := [.int .i64 0, .int .i64 0, .int .i64 0]) (cs := [_, _, _]) [(0, [_, _, _])] sl45 (by kernel_rfl) ⟨⟨rfl, _, rfl, rfl⟩, rfl⟩ rfl rfl rfl rfl (fun g95 => ?_)
              refine JL_giveLast ?_
              exact JL_nil (JE_stepC [vCells (some ⟨g95, 0, none⟩) [.int .i64 ((a.z + t.z : Nat) : Int), .int .i64 (a.s + t.s), .int .i64 (a.w + t.w)]] rfl ⟨g95, rfl, rfl⟩ (all_cons (by repeat (first | with_reducible exact mm0 | refine mmS ?_)) all_nil) (ssS ss0)))), trivial⟩ (by kernel_rfl) (fun vals bs => ?_)
          refine JL_normL [_, _] ⟨99, [(75, _), (76, _), (77, _), (78, _), (79, _), (80, _), (81, _), (82, _), (83, _), (84, _), (85, _), (86, _), (87, _), (88, _), (89, _), (90, _), (91, _), (92, _), (93, _), (94, _), (95, _)], _⟩ [osl _ _ _ _ _ _, box _ _ [_, _, _], box _ _ [_, _, _]] [_, _, _, _, _, _, _, _] rfl rfl rfl rfl ?_
          generalize vals (0 + 1 + 1 + 1 + 1 + 1 + 1 + 1 + 1 + 1 + 1 + 1 + 1 + 1 + 1 + 1 + 1 + 1 + 1 + 1 + 1) = x95
          refine JL_usePost mm0 (fun φo hP => ?_)
          obtain ⟨g95, rfl, rfl⟩ := hP
          refine JL_norm _ [osl _ _ _ _ _ _, box _ _ [_, _, _], box _ _ [_, _, _]] [_, _, _, _, _, _, _, _, _] rfl rfl rfl ?_
          refine JL_conv (fun _ s => s.short 0 (T.length) rfl (by simp only [List.length_cons]; omega)) ?_
          refine JL_norm _ [osl _ _ _ _ _ _, box _ _ [_, _, _], box _ _ [_, _, _]] [_, _, _, _, _, _, _, _, _] rfl rfl rfl ?_
          rw [bcells_short T t a]
          refine JL_append (news := [_, _, _]) 0 sl45 rfl (by decide) rfl rfl rfl rfl (Reads.view (by repeat (first | with_reducible exact mm0 | refine mmS ?_))) (AllOne.cons rfl (AllOne.cons rfl (AllOne.cons rfl AllOne.nil))) (by omega) (by omega) (fun ad96 cap96 hc96 => ?_)
          refine JL_norm _ [osl _ _ _ _ _ _, box _ _ [_, _, _], box _ _ [_, _, _]] [_, _, _, _, _, _, _, _, _] rfl rfl rfl ?_
          rw [show bcells T.reverse ++ [.int .i64 ((a.z + t.z : Nat) : Int), .int .i64 (a.s + t.s), .int .i64 (a.w + t.w)] = bcells (mrg a t :: T).reverse from bcells_snoc T (mrg a t)]
          refine JL_assign rfl ?_
          refine JL_nil_up 99 [osl _ _ _ _ _ _, box _ _ [_, _, _], box _ _ [_, _, _]] [_, _, _, _, _, _, _, _, _] rfl rfl (by simp only [nrmF]; rfl) rfl rfl ?_
          refine JE_block_normal ?_
          refine JE_then ?_
          refine JC_region ?_
          refine JL_move rfl ?_
          refine JL_sub_to rfl rfl (IntWalk.i64_in _ (by simp only [List.length_cons]; omega)) ?_
          rw [show ((((a :: T).length : Nat) : Int) - 1 : Int) = (T.length : Int) from by simp only [List.length_cons]; omega]
          refine JL_assign rfl ?_
          refine JL_nil_up 99 [osl _ _ _ _ _ _, box _ _ [_, _, _], box _ _ [_, _, _]] [_, _, _, _, _, _, _, _, _] rfl rfl (by simp only [nrmF]; rfl) rfl rfl ?_
          refine JE_dropAt 2 ?_
          refine JE_norm _ [osl _ _ _ _ _ _, box _ _ [_, _, _]] [_, _, _, _, _, _, _, _, _] rfl rfl rfl ?_
          refine JE_dropAt 1 ?_
          refine JE_norm _ [osl _ _ _ _ _ _] [_, _, _, _, _, _, _, _, _] rfl rfl rfl ?_
          refine JE_nextS (T, mrg a t, ad96, cap96) (by kernel_rfl) ?_ ?_ (by kernel_rfl) ?_
          · exact ⟨(pushB_go h62).symm.trans hp, hT.mrg, hc96.1⟩
          · simp only [List.length_cons]; omega
          · exact subset_app subset_nil (ssS (ssS (ssS (ssS (ssS ss0)))))
        · refine JL_normL [_] ⟨99, [(66, _), (67, _), (68, _), (69, _), (70, _), (71, _), (72, _), (73, _), (74, _), (8, _), (9, _)], _⟩ [osl _ _ _ _ _ _, box _ _ [_, _, _], box _ _ [_, _, _]] [_, _, _, _, _, _] rfl rfl rfl rfl ?_
          generalize vals (0 + 1 + 1 + 1 + 1 + 1 + 1 + 1) = x73
          generalize vals (0 + 1 + 1 + 1 + 1 + 1 + 1 + 1 + 1) = x74
          generalize bs (0 + 1 + 1 + 1 + 1 + 1 + 1 + 1 + 1 + 1) = b8
          generalize bs (0 + 1 + 1 + 1 + 1 + 1 + 1 + 1 + 1 + 1 + 1) = b9
          refine JL_store (vs := [_, _, _]) 1 ty48 rfl rfl rfl (AllOne.cons rfl (AllOne.cons rfl (AllOne.cons rfl AllOne.nil))) rfl (Nat.le_of_ble_eq_true rfl) ?_
          refine JL_nil_up 99 [osl _ _ _ _ _ _, box _ _ [_, _, _], box _ _ [_, _, _]] [_, _, _, _, _, _] rfl rfl (by simp only [nrmF]; rfl) rfl rfl ?_
          refine JE_nextA ?_
          refine JA_step [7] (by kernel_rfl) (by simp) ⟨⟨_, rfl, ?_⟩, trivial⟩
          refine JL_indexAddr (a :: T).length sl45 rfl rfl rfl (by simp only [List.length_cons]; omega) (Reads.own 0 rfl) (by rw [bcells_length, List.length_reverse]; simp only [List.length_cons]; omega) ?_
          refine JL_nil_up 99 [osl _ _ _ _ _ _, box _ _ [_, _, _], box _ _ [_, _, _]] [_, _, _, _, _, _] rfl rfl (by simp only [nrmF]; rfl) rfl rfl ?_
          refine JE_nextA ?_
          refine JA_step [8] (by kernel_rfl) (by simp) ⟨⟨_, rfl, ?_⟩, trivial⟩
          refine JL_loadEA (vs := [_, _, _]) ty48 (Nat.zero_lt_succ _) rfl (Reads.own 0 rfl) (bcells_topA (a :: T) t) ?_
          refine JL_nil_up 99 [osl _ _ _ _ _ _, box _ _ [_, _, _], box _ _ [_, _, _]] [_, _, _, _, _, _] rfl rfl (by simp only [nrmF]; rfl) rfl rfl ?_
          refine JE_nextA ?_
          refine JA_step [12] (by kernel_rfl) (by simp) ⟨⟨_, rfl, ?_⟩, trivial⟩
          refine JL_store (vs := [_, _, _]) 2 ty48 rfl rfl rfl (AllOne.cons rfl (AllOne.cons rfl (AllOne.cons rfl AllOne.nil))) rfl (Nat.le_of_ble_eq_true rfl) ?_
          refine JL_nil_up 99 [osl _ _ _ _ _ _, box _ _ [_, _, _], box _ _ [_, _, _]] [_, _, _, _, _, _] rfl rfl (by simp only [nrmF]; rfl) rfl rfl ?_
          refine JE_nextA ?_
          refine JA_end (by kernel_rfl) ?_
          refine JE_then ?_
          refine JC_drawT mixed 21 [spV 75 [] _, spV 76 [] _, spV 77 [1] _, spV 78 [0, 2] _, spV 79 [] _, spV 80 [4] _, spV 81 [] _, spV 82 [6] _, spV 83 [5, 7] _, spV 84 [] _, spV 85 [9] _, spV 86 [] _, spV 87 [11] _, spV 88 [10, 12] _, spV 89 [] _, spV 90 [14] _, spV 91 [] _, spV 92 [16] _, spV 93 [15, 17] _, spV 94 [8, 13, 18] (.agg #[.int .i64 ((a.z + t.z : Nat) : Int), .int .i64 (a.s + t.s), .int .i64 (a.w + t.w)]), spC 95 [19] (fun v φo => ∃ g : Nat, v = .slice (some ⟨g, 0, none⟩) 1 1 ∧ φo = [vCells (some ⟨g, 0, none⟩) [.int .i64 ((a.z + t.z : Nat) : Int), .int .i64 (a.s + t.s), .int .i64 (a.w + t.w)]])] ⟨OblS_V (fun vals ex ψ => (by
              refine JL_normQ ⟨99, [(75, _), (76, _), (77, _), (78, _), (79, _), (80, _), (81, _), (82, _), (83, _), (84, _), (85, _), (86, _), (87, _), (88, _), (89, _), (90, _), (91, _), (92, _), (93, _), (94, _), (95, _)], _⟩ (_ :: _ :: _ :: _ :: _ :: _ :: ψ) rfl rfl ?_
              refine JL_move rfl ?_
              exact JL_nil (JE_stepV rfl ss0))), OblS_V (fun vals ex ψ => (by
              refine JL_normQ ⟨99, [(75, _), (76, _), (77, _), (78, _), (79, _), (80, _), (81, _), (82, _), (83, _), (84, _), (85, _), (86, _), (87, _), (88, _), (89, _), (90, _), (91, _), (92, _), (93, _), (94, _), (95, _)], _⟩ (_ :: _ :: _ :: _ :: _ :: _ :: ψ) rfl rfl ?_
              refine JL_move rfl ?_
              exact JL_nil (JE_stepV rfl ss0))), OblS_V (fun vals ex ψ => (by
              refine JL_normQ ⟨99, [(75, _), (76, _), (77, _), (78, _), (79, _), (80, _), (81, _), (82, _), (83, _), (84, _), (85, _), (86, _), (87, _), (88, _), (89, _), (90, _), (91, _), (92, _), (93, _), (94, _), (95, _)], _⟩ (_ :: _ :: _ :: _ :: _ :: _ :: ψ) rfl rfl ?_
              refine JL_sub_to rfl rfl (IntWalk.i64_in _ (by simp only [List.length_cons]; omega)) ?_
              rw [show ((((a :: T).length : Nat) : Int) - 1 : Int) = (T.length : Int) from by simp only [List.length_cons]; omega]
              exact JL_nil (JE_stepV rfl ss0))), OblS_V (fun vals ex ψ => (by
              refine JL_normQ ⟨99, [(75, _), (76, _), (77, _), (78, _), (79, _), (80, _), (81, _), (82, _), (83, _), (84, _), (85, _), (86, _), (87, _), (88, _), (89, _), (90, _), (91, _), (92, _), (93, _), (94, _), (95, _)], _⟩ (_ :: _ :: _ :: _ :: _ :: _ :: ψ) rfl rfl ?_
              refine JL_sliceTo T.length sl45 rfl rfl rfl (by simp only [List.length_cons] at hcap; omega) ?_
              exact JL_nil (JE_stepV rfl ss0))), OblS_V (fun vals ex ψ => (by
              refine JL_normQ ⟨99, [(75, _), (76, _), (77, _), (78, _), (79, _), (80, _), (81, _), (82, _), (83, _), (84, _), (85, _), (86, _), (87, _), (88, _), (89, _), (90, _), (91, _), (92, _), (93, _), (94, _), (95, _)], _⟩ (_ :: _ :: _ :: _ :: _ :: _ :: ψ) rfl rfl ?_
              refine JL_fieldAddr fo48_0 rfl ?_
              exact JL_nil (JE_stepV rfl ss0))), OblS_V (fun vals ex ψ => (by
              refine JL_normQ ⟨99, [(75, _), (76, _), (77, _), (78, _), (79, _), (80, _), (81, _), (82, _), (83, _), (84, _), (85, _), (86, _), (87, _), (88, _), (89, _), (90, _), (91, _), (92, _), (93, _), (94, _), (95, _)], _⟩ (_ :: _ :: _ :: _ :: _ :: _ :: ψ) rfl rfl ?_
              refine JL_load 1 ty3 rfl rfl rfl ?_
              exact JL_nil (JE_stepV rfl ss0))), OblS_V (fun vals ex ψ => (by
              refine JL_normQ ⟨99, [(75, _), (76, _), (77, _), (78, _), (79, _), (80, _), (81, _), (82, _), (83, _), (84, _), (85, _), (86, _), (87, _), (88, _), (89, _), (90, _), (91, _), (92, _), (93, _), (94, _), (95, _)], _⟩ (_ :: _ :: _ :: _ :: _ :: _ :: ψ) rfl rfl ?_
              refine JL_fieldAddr fo48_0 rfl ?_
              exact JL_nil (JE_stepV rfl ss0))), OblS_V (fun vals ex ψ => (by
              refine JL_normQ ⟨99, [(75, _), (76, _), (77, _), (78, _), (79, _), (80, _), (81, _), (82, _), (83, _), (84, _), (85, _), (86, _), (87, _), (88, _), (89, _), (90, _), (91, _), (92, _), (93, _), (94, _), (95, _)], _⟩ (_ :: _ :: _ :: _ :: _ :: _ :: ψ) rfl rfl ?_
              refine JL_load 2 ty3 rfl rfl rfl ?_
              exact JL_nil (JE_stepV rfl ss0))), OblS_V (fun vals ex ψ => (by
              refine JL_normQ ⟨99, [(75, _), (76, _), (77, _), (78, _), (79, _), (80, _), (81, _), (82, _), (83, _), (84, _), (85, _), (86, _), (87, _), (88, _), (89, _), (90, _), (91, _), (92, _), (93, _), (94, _), (95, _)], _⟩ (_ :: _ :: _ :: _ :: _ :: _ :: ψ) rfl rfl ?_
              refine JL_add_to rfl rfl (IntWalk.i64_in _ (by omega)) ?_
              rw [show ((a.z : Int) + (t.z : Int) : Int) = ((a.z + t.z : Nat) : Int) from by omega]
              exact JL_nil (JE_stepV rfl ss0))), OblS_V (fun vals ex ψ => (by
              refine JL_normQ ⟨99, [(75, _), (76, _), (77, _), (78, _), (79, _), (80, _), (81, _), (82, _), (83, _), (84, _), (85, _), (86, _), (87, _), (88, _), (89, _), (90, _), (91, _), (92, _), (93, _), (94, _), (95, _)], _⟩ (_ :: _ :: _ :: _ :: _ :: _ :: ψ) rfl rfl ?_
              refine JL_fieldAddr fo48_1 rfl ?_
              exact JL_nil (JE_stepV rfl ss0))), OblS_V (fun vals ex ψ => (by
              refine JL_normQ ⟨99, [(75, _), (76, _), (77, _), (78, _), (79, _), (80, _), (81, _), (82, _), (83, _), (84, _), (85, _), (86, _), (87, _), (88, _), (89, _), (90, _), (91, _), (92, _), (93, _), (94, _), (95, _)], _⟩ (_ :: _ :: _ :: _ :: _ :: _ :: ψ) rfl rfl ?_
              refine JL_load 1 ty3 rfl rfl rfl ?_
              exact JL_nil (JE_stepV rfl ss0))), OblS_V (fun vals ex ψ => (by
              refine JL_normQ ⟨99, [(75, _), (76, _), (77, _), (78, _), (79, _), (80, _), (81, _), (82, _), (83, _), (84, _), (85, _), (86, _), (87, _), (88, _), (89, _), (90, _), (91, _), (92, _), (93, _), (94, _), (95, _)], _⟩ (_ :: _ :: _ :: _ :: _ :: _ :: ψ) rfl rfl ?_
              refine JL_fieldAddr fo48_1 rfl ?_
              exact JL_nil (JE_stepV rfl ss0))), OblS_V (fun vals ex ψ => (by
              refine JL_normQ ⟨99, [(75, _), (76, _), (77, _), (78, _), (79, _), (80, _), (81, _), (82, _), (83, _), (84, _), (85, _), (86, _), (87, _), (88, _), (89, _), (90, _), (91, _), (92, _), (93, _), (94, _), (95, _)], _⟩ (_ :: _ :: _ :: _ :: _ :: _ :: ψ) rfl rfl ?_
              refine JL_load 2 ty3 rfl rfl rfl ?_
              exact JL_nil (JE_stepV rfl ss0))), OblS_V (fun vals ex ψ => (by
              refine JL_normQ ⟨99, [(75, _), (76, _), (77, _), (78, _), (79, _), (80, _), (81, _), (82, _), (83, _), (84, _), (85, _), (86, _), (87, _), (88, _), (89, _), (90, _), (91, _), (92, _), (93, _), (94, _), (95, _)], _⟩ (_ :: _ :: _ :: _ :: _ :: _ :: ψ) rfl rfl ?_
              refine JL_add_to rfl rfl (IntWalk.i64_in _ (by omega)) ?_
              exact JL_nil (JE_stepV rfl ss0))), OblS_V (fun vals ex ψ => (by
              refine JL_normQ ⟨99, [(75, _), (76, _), (77, _), (78, _), (79, _), (80, _), (81, _), (82, _), (83, _), (84, _), (85, _), (86, _), (87, _), (88, _), (89, _), (90, _), (91, _), (92, _), (93, _), (94, _), (95, _)], _⟩ (_ :: _ :: _ :: _ :: _ :: _ :: ψ) rfl rfl ?_
              refine JL_fieldAddr fo48_2 rfl ?_
              exact JL_nil (JE_stepV rfl ss0))), OblS_V (fun vals ex ψ => (by
              refine JL_normQ ⟨99, [(75, _), (76, _), (77, _), (78, _), (79, _), (80, _), (81, _), (82, _), (83, _), (84, _), (85, _), (86, _), (87, _), (88, _), (89, _), (90, _), (91, _), (92, _), (93, _), (94, _), (95, _)], _⟩ (_ :: _ :: _ :: _ :: _ :: _ :: ψ) rfl rfl ?_
              refine JL_load 1 ty3 rfl rfl rfl ?_
              exact JL_nil (JE_stepV rfl ss0))), OblS_V (fun vals ex ψ => (by
              refine JL_normQ ⟨99, [(75, _), (76, _), (77, _), (78, _), (79, _), (80, _), (81, _), (82, _), (83, _), (84, _), (85, _), (86, _), (87, _), (88, _), (89, _), (90, _), (91, _), (92, _), (93, _), (94, _), (95, _)], _⟩ (_ :: _ :: _ :: _ :: _ :: _ :: ψ) rfl rfl ?_
              refine JL_fieldAddr fo48_2 rfl ?_
              exact JL_nil (JE_stepV rfl ss0))), OblS_V (fun vals ex ψ => (by
              refine JL_normQ ⟨99, [(75, _), (76, _), (77, _), (78, _), (79, _), (80, _), (81, _), (82, _), (83, _), (84, _), (85, _), (86, _), (87, _), (88, _), (89, _), (90, _), (91, _), (92, _), (93, _), (94, _), (95, _)], _⟩ (_ :: _ :: _ :: _ :: _ :: _ :: ψ) rfl rfl ?_
              refine JL_load 2 ty3 rfl rfl rfl ?_
              exact JL_nil (JE_stepV rfl ss0))), OblS_V (fun vals ex ψ => (by
              refine JL_normQ ⟨99, [(75, _), (76, _), (77, _), (78, _), (79, _), (80, _), (81, _), (82, _), (83, _), (84, _), (85, _), (86, _), (87, _), (88, _), (89, _), (90, _), (91, _), (92, _), (93, _), (94, _), (95, _)], _⟩ (_ :: _ :: _ :: _ :: _ :: _ :: ψ) rfl rfl ?_
              refine JL_add_to rfl rfl (IntWalk.i64_in _ (by omega)) ?_
              exact JL_nil (JE_stepV rfl ss0))), OblS_V (fun vals ex ψ => (by
              refine JL_normQ ⟨99, [(75, _), (76, _), (77, _), (78, _), (79, _), (80, _), (81, _), (82, _), (83, _), (84, _), (85, _), (86, _), (87, _), (88, _), (89, _), (90, _), (91, _), (92, _), (93, _), (94, _), (95, _)], _⟩ (_ :: _ :: _ :: _ :: _ :: _ :: ψ) rfl rfl ?_
              refine JL_build (cs := [_, _, _]) [(0, [_]), (1, [_]), (2, [_])] st48 ⟨⟨rfl, _, rfl, rfl⟩, ⟨rfl, _, rfl, rfl⟩, ⟨rfl, _, rfl, rfl⟩, rfl⟩ rfl ?_
              exact JL_nil (JE_stepV rfl ss0))), OblS_C (fun vals ex ψ => (by
              refine JL_normQ ⟨99, [(75, _), (76, _), (77, _), (78, _), (79, _), (80, _), (81, _), (82, _), (83, _), (84, _), (85, _), (86, _), (87, _), (88, _), (89, _), (90, _), (91, _), (92, _), (93, _), (94, _), (95, _)], _⟩ (_ :: _ :: _ :: _ :: _ :: _ :: ψ) rfl rfl ?_
              refine JL_buildN (cs0 := [.int .i64 0, .int .i64 0, .int .i64 0]) (cs := [_, _, _]) [(0, [_, _, _])] sl45 (by kernel_rfl) ⟨⟨rfl, _, rfl, rfl⟩, rfl⟩ rfl rfl rfl rfl (fun g95 => ?_)
              refine JL_giveLast ?_
              exact JL_nil (JE_stepC [vCells (some ⟨g95, 0, none⟩) [.int .i64 ((a.z + t.z : Nat) : Int), .int .i64 (a.s + t.s), .int .i64 (a.w + t.w)]] rfl ⟨g95, rfl, rfl⟩ (all_cons (by repeat (first | with_reducible exact mm0 | refine mmS ?_)) all_nil) (ssS ss0)))), trivial⟩ (by kernel_rfl) (fun vals bs => ?_)
          refine JL_normL [_, _] ⟨99, [(75, _), (76, _), (77, _), (78, _), (79, _), (80, _), (81, _), (82, _), (83, _), (84, _), (85, _), (86, _), (87, _), (88, _), (89, _), (90, _), (91, _), (92, _), (93, _), (94, _), (95, _)], _⟩ [osl _ _ _ _ _ _, box _ _ [_, _, _], box _ _ [_, _, _]] [_, _, _, _, _, _, _] rfl rfl rfl rfl ?_
          generalize vals (0 + 1 + 1 + 1 + 1 + 1 + 1 + 1 + 1 + 1 + 1 + 1 + 1 + 1 + 1 + 1 + 1 + 1 + 1 + 1 + 1) = x95
          refine JL_usePost mm0 (fun φo hP => ?_)
          obtain ⟨g95, rfl, rfl⟩ := hP
          refine JL_norm _ [osl _ _ _ _ _ _, box _ _ [_, _, _], box _ _ [_, _, _]] [_, _, _, _, _, _, _, _] rfl rfl rfl ?_
          refine JL_conv (fun _ s => s.short 0 (T.length) rfl (by simp only [List.length_cons]; omega)) ?_
          refine JL_norm _ [osl _ _ _ _ _ _, box _ _ [_, _, _], box _ _ [_, _, _]] [_, _, _, _, _, _, _, _] rfl rfl rfl ?_
          rw [bcells_short T t a]
          refine JL_append (news := [_, _, _]) 0 sl45 rfl (by decide) rfl rfl rfl rfl (Reads.view (by repeat (first | with_reducible exact mm0 | refine mmS ?_))) (AllOne.cons rfl (AllOne.cons rfl (AllOne.cons rfl AllOne.nil))) (by omega) (by omega) (fun ad96 cap96 hc96 => ?_)
          refine JL_norm _ [osl _ _ _ _ _ _, box _ _ [_, _, _], box _ _ [_, _, _]] [_, _, _, _, _, _, _, _] rfl rfl rfl ?_
          rw [show bcells T.reverse ++ [.int .i64 ((a.z + t.z : Nat) : Int), .int .i64 (a.s + t.s), .int .i64 (a.w + t.w)] = bcells (mrg a t :: T).reverse from bcells_snoc T (mrg a t)]
          refine JL_assign rfl ?_
          refine JL_nil_up 99 [osl _ _ _ _ _ _, box _ _ [_, _, _], box _ _ [_, _, _]] [_, _, _, _, _, _, _, _] rfl rfl (by simp only [nrmF]; rfl) rfl rfl ?_
          refine JE_block_normal ?_
          refine JE_then ?_
          refine JC_region ?_
          refine JL_move rfl ?_
          refine JL_sub_to rfl rfl (IntWalk.i64_in _ (by simp only [List.length_cons]; omega)) ?_
          rw [show ((((a :: T).length : Nat) : Int) - 1 : Int) = (T.length : Int) from by simp only [List.length_cons]; omega]
          refine JL_assign rfl ?_
          refine JL_nil_up 99 [osl _ _ _ _ _ _, box _ _ [_, _, _], box _ _ [_, _, _]] [_, _, _, _, _, _, _, _] rfl rfl (by simp only [nrmF]; rfl) rfl rfl ?_
          refine JE_dropAt 2 ?_
          refine JE_norm _ [osl _ _ _ _ _ _, box _ _ [_, _, _]] [_, _, _, _, _, _, _, _] rfl rfl rfl ?_
          refine JE_dropAt 1 ?_
          refine JE_norm _ [osl _ _ _ _ _ _] [_, _, _, _, _, _, _, _] rfl rfl rfl ?_
          refine JE_nextS (T, mrg a t, ad96, cap96) (by kernel_rfl) ?_ ?_ (by kernel_rfl) ?_
          · exact ⟨(pushB_go h62).symm.trans hp, hT.mrg, hc96.1⟩
          · simp only [List.length_cons]; omega
          · exact subset_app subset_nil (ssS (ssS (ssS (ssS ss0))))
        · refine JL_normL [_] ⟨99, [(66, _), (67, _), (68, _), (69, _), (70, _), (71, _), (72, _), (73, _), (74, _), (8, _), (9, _)], _⟩ [osl _ _ _ _ _ _, box _ _ [_, _, _], box _ _ [_, _, _]] [_, _, _, _, _] rfl rfl rfl rfl ?_
          generalize vals (0 + 1 + 1 + 1 + 1 + 1 + 1 + 1 + 1) = x74
          generalize bs (0 + 1 + 1 + 1 + 1 + 1 + 1 + 1 + 1 + 1) = b8
          generalize bs (0 + 1 + 1 + 1 + 1 + 1 + 1 + 1 + 1 + 1 + 1) = b9
          refine JL_store (vs := [_, _, _]) 1 ty48 rfl rfl rfl (AllOne.cons rfl (AllOne.cons rfl (AllOne.cons rfl AllOne.nil))) rfl (Nat.le_of_ble_eq_true rfl) ?_
          refine JL_nil_up 99 [osl _ _ _ _ _ _, box _ _ [_, _, _], box _ _ [_, _, _]] [_, _, _, _, _] rfl rfl (by simp only [nrmF]; rfl) rfl rfl ?_
          refine JE_nextA ?_
          refine JA_step [8] (by kernel_rfl) (by simp) ⟨⟨_, rfl, ?_⟩, trivial⟩
          refine JL_loadEA (vs := [_, _, _]) ty48 (Nat.zero_lt_succ _) rfl (Reads.own 0 rfl) (bcells_topA (a :: T) t) ?_
          refine JL_nil_up 99 [osl _ _ _ _ _ _, box _ _ [_, _, _], box _ _ [_, _, _]] [_, _, _, _, _] rfl rfl (by simp only [nrmF]; rfl) rfl rfl ?_
          refine JE_nextA ?_
          refine JA_step [12] (by kernel_rfl) (by simp) ⟨⟨_, rfl, ?_⟩, trivial⟩
          refine JL_store (vs := [_, _, _]) 2 ty48 rfl rfl rfl (AllOne.cons rfl (AllOne.cons rfl (AllOne.cons rfl AllOne.nil))) rfl (Nat.le_of_ble_eq_true rfl) ?_
          refine JL_nil_up 99 [osl _ _ _ _ _ _, box _ _ [_, _, _], box _ _ [_, _, _]] [_, _, _, _, _] rfl rfl (by simp only [nrmF]; rfl) rfl rfl ?_
          refine JE_nextA ?_
          refine JA_end (by kernel_rfl) ?_
          refine JE_then ?_
          refine JC_drawT mixed 21 [spV 75 [] _, spV 76 [] _, spV 77 [1] _, spV 78 [0, 2] _, spV 79 [] _, spV 80 [4] _, spV 81 [] _, spV 82 [6] _, spV 83 [5, 7] _, spV 84 [] _, spV 85 [9] _, spV 86 [] _, spV 87 [11] _, spV 88 [10, 12] _, spV 89 [] _, spV 90 [14] _, spV 91 [] _, spV 92 [16] _, spV 93 [15, 17] _, spV 94 [8, 13, 18] (.agg #[.int .i64 ((a.z + t.z : Nat) : Int), .int .i64 (a.s + t.s), .int .i64 (a.w + t.w)]), spC 95 [19] (fun v φo => ∃ g : Nat, v = .slice (some ⟨g, 0, none⟩) 1 1 ∧ φo = [vCells (some ⟨g, 0, none⟩) [.int .i64 ((a.z + t.z : Nat) : Int), .int .i64 (a.s + t.s), .int .i64 (a.w + t.w)]])] ⟨OblS_V (fun vals ex ψ => (by
              refine JL_normQ ⟨99, [(75, _), (76, _), (77, _), (78, _), (79, _), (80, _), (81, _), (82, _), (83, _), (84, _), (85, _), (86, _), (87, _), (88, _), (89, _), (90, _), (91, _), (92, _), (93, _), (94, _), (95, _)], _⟩ (_ :: _ :: _ :: _ :: _ :: ψ) rfl rfl ?_
              refine JL_move rfl ?_
              exact JL_nil (JE_stepV rfl ss0))), OblS_V (fun vals ex ψ => (by
              refine JL_normQ ⟨99, [(75, _), (76, _), (77, _), (78, _), (79, _), (80, _), (81, _), (82, _), (83, _), (84, _), (85, _), (86, _), (87, _), (88, _), (89, _), (90, _), (91, _), (92, _), (93, _), (94, _), (95, _)], _⟩ (_ :: _ :: _ :: _ :: _ :: ψ) rfl rfl ?_
              refine JL_move rfl ?_
              exact JL_nil (JE_stepV rfl ss0))), OblS_V (fun vals ex ψ => (by
              refine JL_normQ ⟨99, [(75, _), (76, _), (77, _), (78, _), (79, _), (80, _), (81, _), (82, _), (83, _), (84, _), (85, _), (86, _), (87, _), (88, _), (89, _), (90, _), (91, _), (92, _), (93, _), (94, _), (95, _)], _⟩ (_ :: _ :: _ :: _ :: _ :: ψ) rfl rfl ?_
              refine JL_sub_to rfl rfl (IntWalk.i64_in _ (by simp only [List.length_cons]; omega)) ?_
              rw [show ((((a :: T).length : Nat) : Int) - 1 : Int) = (T.length : Int) from by simp only [List.length_cons]; omega]
              exact JL_nil (JE_stepV rfl ss0))), OblS_V (fun vals ex ψ => (by
              refine JL_normQ ⟨99, [(75, _), (76, _), (77, _), (78, _), (79, _), (80, _), (81, _), (82, _), (83, _), (84, _), (85, _), (86, _), (87, _), (88, _), (89, _), (90, _), (91, _), (92, _), (93, _), (94, _), (95, _)], _⟩ (_ :: _ :: _ :: _ :: _ :: ψ) rfl rfl ?_
              refine JL_sliceTo T.length sl45 rfl rfl rfl (by simp only [List.length_cons] at hcap; omega) ?_
              exact JL_nil (JE_stepV rfl ss0))), OblS_V (fun vals ex ψ => (by
              refine JL_normQ ⟨99, [(75, _), (76, _), (77, _), (78, _), (79, _), (80, _), (81, _), (82, _), (83, _), (84, _), (85, _), (86, _), (87, _), (88, _), (89, _), (90, _), (91, _), (92, _), (93, _), (94, _), (95, _)], _⟩ (_ :: _ :: _ :: _ :: _ :: ψ) rfl rfl ?_
              refine JL_fieldAddr fo48_0 rfl ?_
              exact JL_nil (JE_stepV rfl ss0))), OblS_V (fun vals ex ψ => (by
              refine JL_normQ ⟨99, [(75, _), (76, _), (77, _), (78, _), (79, _), (80, _), (81, _), (82, _), (83, _), (84, _), (85, _), (86, _), (87, _), (88, _), (89, _), (90, _), (91, _), (92, _), (93, _), (94, _), (95, _)], _⟩ (_ :: _ :: _ :: _ :: _ :: ψ) rfl rfl ?_
              refine JL_load 1 ty3 rfl rfl rfl ?_
              exact JL_nil (JE_stepV rfl ss0))), OblS_V (fun vals ex ψ => (by
              refine JL_normQ ⟨99, [(75, _), (76, _), (77, _), (78, _), (79, _), (80, _), (81, _), (82, _), (83, _), (84, _), (85, _), (86, _), (87, _), (88, _), (89, _), (90, _), (91, _), (92, _), (93, _), (94, _), (95, _)], _⟩ (_ :: _ :: _ :: _ :: _ :: ψ) rfl rfl ?_
              refine JL_fieldAddr fo48_0 rfl ?_
              exact JL_nil (JE_stepV rfl ss0))), OblS_V (fun vals ex ψ => (by
              refine JL_normQ ⟨99, [(75, _), (76, _), (77, _), (78, _), (79, _), (80, _), (81, _), (82, _), (83, _), (84, _), (85, _), (86, _), (87, _), (88, _), (89, _), (90, _), (91, _), (92, _), (93, _), (94, _), (95, _)], _⟩ (_ :: _ :: _ :: _ :: _ :: ψ) rfl rfl ?_
              refine JL_load 2 ty3 rfl rfl rfl ?_
              exact JL_nil (JE_stepV rfl ss0))), OblS_V (fun vals ex ψ => (by
              refine JL_normQ ⟨99, [(75, _), (76, _), (77, _), (78, _), (79, _), (80, _), (81, _), (82, _), (83, _), (84, _), (85, _), (86, _), (87, _), (88, _), (89, _), (90, _), (91, _), (92, _), (93, _), (94, _), (95, _)], _⟩ (_ :: _ :: _ :: _ :: _ :: ψ) rfl rfl ?_
              refine JL_add_to rfl rfl (IntWalk.i64_in _ (by omega)) ?_
              rw [show ((a.z : Int) + (t.z : Int) : Int) = ((a.z + t.z : Nat) : Int) from by omega]
              exact JL_nil (JE_stepV rfl ss0))), OblS_V (fun vals ex ψ => (by
              refine JL_normQ ⟨99, [(75, _), (76, _), (77, _), (78, _), (79, _), (80, _), (81, _), (82, _), (83, _), (84, _), (85, _), (86, _), (87, _), (88, _), (89, _), (90, _), (91, _), (92, _), (93, _), (94, _), (95, _)], _⟩ (_ :: _ :: _ :: _ :: _ :: ψ) rfl rfl ?_
              refine JL_fieldAddr fo48_1 rfl ?_
              exact JL_nil (JE_stepV rfl ss0))), OblS_V (fun vals ex ψ => (by
              refine JL_normQ ⟨99, [(75, _), (76, _), (77, _), (78, _), (79, _), (80, _), (81, _), (82, _), (83, _), (84, _), (85, _), (86, _), (87, _), (88, _), (89, _), (90, _), (91, _), (92, _), (93, _), (94, _), (95, _)], _⟩ (_ :: _ :: _ :: _ :: _ :: ψ) rfl rfl ?_
              refine JL_load 1 ty3 rfl rfl rfl ?_
              exact JL_nil (JE_stepV rfl ss0))), OblS_V (fun vals ex ψ => (by
              refine JL_normQ ⟨99, [(75, _), (76, _), (77, _), (78, _), (79, _), (80, _), (81, _), (82, _), (83, _), (84, _), (85, _), (86, _), (87, _), (88, _), (89, _), (90, _), (91, _), (92, _), (93, _), (94, _), (95, _)], _⟩ (_ :: _ :: _ :: _ :: _ :: ψ) rfl rfl ?_
              refine JL_fieldAddr fo48_1 rfl ?_
              exact JL_nil (JE_stepV rfl ss0))), OblS_V (fun vals ex ψ => (by
              refine JL_normQ ⟨99, [(75, _), (76, _), (77, _), (78, _), (79, _), (80, _), (81, _), (82, _), (83, _), (84, _), (85, _), (86, _), (87, _), (88, _), (89, _), (90, _), (91, _), (92, _), (93, _), (94, _), (95, _)], _⟩ (_ :: _ :: _ :: _ :: _ :: ψ) rfl rfl ?_
              refine JL_load 2 ty3 rfl rfl rfl ?_
              exact JL_nil (JE_stepV rfl ss0))), OblS_V (fun vals ex ψ => (by
              refine JL_normQ ⟨99, [(75, _), (76, _), (77, _), (78, _), (79, _), (80, _), (81, _), (82, _), (83, _), (84, _), (85, _), (86, _), (87, _), (88, _), (89, _), (90, _), (91, _), (92, _), (93, _), (94, _), (95, _)], _⟩ (_ :: _ :: _ :: _ :: _ :: ψ) rfl rfl ?_
              refine JL_add_to rfl rfl (IntWalk.i64_in _ (by omega)) ?_
              exact JL_nil (JE_stepV rfl ss0))), OblS_V (fun vals ex ψ => (by
              refine JL_normQ ⟨99, [(75, _), (76, _), (77, _), (78, _), (79, _), (80, _), (81, _), (82, _), (83, _), (84, _), (85, _), (86, _), (87, _), (88, _), (89, _), (90, _), (91, _), (92, _), (93, _), (94, _), (95, _)], _⟩ (_ :: _ :: _ :: _ :: _ :: ψ) rfl rfl ?_
              refine JL_fieldAddr fo48_2 rfl ?_
              exact JL_nil (JE_stepV rfl ss0))), OblS_V (fun vals ex ψ => (by
              refine JL_normQ ⟨99, [(75, _), (76, _), (77, _), (78, _), (79, _), (80, _), (81, _), (82, _), (83, _), (84, _), (85, _), (86, _), (87, _), (88, _), (89, _), (90, _), (91, _), (92, _), (93, _), (94, _), (95, _)], _⟩ (_ :: _ :: _ :: _ :: _ :: ψ) rfl rfl ?_
              refine JL_load 1 ty3 rfl rfl rfl ?_
              exact JL_nil (JE_stepV rfl ss0))), OblS_V (fun vals ex ψ => (by
              refine JL_normQ ⟨99, [(75, _), (76, _), (77, _), (78, _), (79, _), (80, _), (81, _), (82, _), (83, _), (84, _), (85, _), (86, _), (87, _), (88, _), (89, _), (90, _), (91, _), (92, _), (93, _), (94, _), (95, _)], _⟩ (_ :: _ :: _ :: _ :: _ :: ψ) rfl rfl ?_
              refine JL_fieldAddr fo48_2 rfl ?_
              exact JL_nil (JE_stepV rfl ss0))), OblS_V (fun vals ex ψ => (by
              refine JL_normQ ⟨99, [(75, _), (76, _), (77, _), (78, _), (79, _), (80, _), (81, _), (82, _), (83, _), (84, _), (85, _), (86, _), (87, _), (88, _), (89, _), (90, _), (91, _), (92, _), (93, _), (94, _), (95, _)], _⟩ (_ :: _ :: _ :: _ :: _ :: ψ) rfl rfl ?_
              refine JL_load 2 ty3 rfl rfl rfl ?_
              exact JL_nil (JE_stepV rfl ss0))), OblS_V (fun vals ex ψ => (by
              refine JL_normQ ⟨99, [(75, _), (76, _), (77, _), (78, _), (79, _), (80, _), (81, _), (82, _), (83, _), (84, _), (85, _), (86, _), (87, _), (88, _), (89, _), (90, _), (91, _), (92, _), (93, _), (94, _), (95, _)], _⟩ (_ :: _ :: _ :: _ :: _ :: ψ) rfl rfl ?_
              refine JL_add_to rfl rfl (IntWalk.i64_in _ (by omega)) ?_
              exact JL_nil (JE_stepV rfl ss0))), OblS_V (fun vals ex ψ => (by
              refine JL_normQ ⟨99, [(75, _), (76, _), (77, _), (78, _), (79, _), (80, _), (81, _), (82, _), (83, _), (84, _), (85, _), (86, _), (87, _), (88, _), (89, _), (90, _), (91, _), (92, _), (93, _), (94, _), (95, _)], _⟩ (_ :: _ :: _ :: _ :: _ :: ψ) rfl rfl ?_
              refine JL_build (cs := [_, _, _]) [(0, [_]), (1, [_]), (2, [_])] st48 ⟨⟨rfl, _, rfl, rfl⟩, ⟨rfl, _, rfl, rfl⟩, ⟨rfl, _, rfl, rfl⟩, rfl⟩ rfl ?_
              exact JL_nil (JE_stepV rfl ss0))), OblS_C (fun vals ex ψ => (by
              refine JL_normQ ⟨99, [(75, _), (76, _), (77, _), (78, _), (79, _), (80, _), (81, _), (82, _), (83, _), (84, _), (85, _), (86, _), (87, _), (88, _), (89, _), (90, _), (91, _), (92, _), (93, _), (94, _), (95, _)], _⟩ (_ :: _ :: _ :: _ :: _ :: ψ) rfl rfl ?_
              refine JL_buildN (cs0 := [.int .i64 0, .int .i64 0, .int .i64 0]) (cs := [_, _, _]) [(0, [_, _, _])] sl45 (by kernel_rfl) ⟨⟨rfl, _, rfl, rfl⟩, rfl⟩ rfl rfl rfl rfl (fun g95 => ?_)
              refine JL_giveLast ?_
              exact JL_nil (JE_stepC [vCells (some ⟨g95, 0, none⟩) [.int .i64 ((a.z + t.z : Nat) : Int), .int .i64 (a.s + t.s), .int .i64 (a.w + t.w)]] rfl ⟨g95, rfl, rfl⟩ (all_cons (by repeat (first | with_reducible exact mm0 | refine mmS ?_)) all_nil) (ssS ss0)))), trivial⟩ (by kernel_rfl) (fun vals bs => ?_)
          refine JL_normL [_, _] ⟨99, [(75, _), (76, _), (77, _), (78, _), (79, _), (80, _), (81, _), (82, _), (83, _), (84, _), (85, _), (86, _), (87, _), (88, _), (89, _), (90, _), (91, _), (92, _), (93, _), (94, _), (95, _)], _⟩ [osl _ _ _ _ _ _, box _ _ [_, _, _], box _ _ [_, _, _]] [_, _, _, _, _, _] rfl rfl rfl rfl ?_
          generalize vals (0 + 1 + 1 + 1 + 1 + 1 + 1 + 1 + 1 + 1 + 1 + 1 + 1 + 1 + 1 + 1 + 1 + 1 + 1 + 1 + 1) = x95
          refine JL_usePost mm0 (fun φo hP => ?_)
          obtain ⟨g95, rfl, rfl⟩ := hP
          refine JL_norm _ [osl _ _ _ _ _ _, box _ _ [_, _, _], box _ _ [_, _, _]] [_, _, _, _, _, _, _] rfl rfl rfl ?_
          refine JL_conv (fun _ s => s.short 0 (T.length) rfl (by simp only [List.length_cons]; omega)) ?_
          refine JL_norm _ [osl _ _ _ _ _ _, box _ _ [_, _, _], box _ _ [_, _, _]] [_, _, _, _, _, _, _] rfl rfl rfl ?_
          rw [bcells_short T t a]
          refine JL_append (news := [_, _, _]) 0 sl45 rfl (by decide) rfl rfl rfl rfl (Reads.view (by repeat (first | with_reducible exact mm0 | refine mmS ?_))) (AllOne.cons rfl (AllOne.cons rfl (AllOne.cons rfl AllOne.nil))) (by omega) (by omega) (fun ad96 cap96 hc96 => ?_)
          refine JL_norm _ [osl _ _ _ _ _ _, box _ _ [_, _, _], box _ _ [_, _, _]] [_, _, _, _, _, _, _] rfl rfl rfl ?_
          rw [show bcells T.reverse ++ [.int .i64 ((a.z + t.z : Nat) : Int), .int .i64 (a.s + t.s), .int .i64 (a.w + t.w)] = bcells (mrg a t :: T).reverse from bcells_snoc T (mrg a t)]
          refine JL_assign rfl ?_
          refine JL_nil_up 99 [osl _ _ _ _ _ _, box _ _ [_, _, _], box _ _ [_, _, _]] [_, _, _, _, _, _, _] rfl rfl (by simp only [nrmF]; rfl) rfl rfl ?_
          refine JE_block_normal ?_
          refine JE_then ?_
          refine JC_region ?_
          refine JL_move rfl ?_
          refine JL_sub_to rfl rfl (IntWalk.i64_in _ (by simp only [List.length_cons]; omega)) ?_
          rw [show ((((a :: T).length : Nat) : Int) - 1 : Int) = (T.length : Int) from by simp only [List.length_cons]; omega]
          refine JL_assign rfl ?_
          refine JL_nil_up 99 [osl _ _ _ _ _ _, box _ _ [_, _, _], box _ _ [_, _, _]] [_, _, _, _, _, _, _] rfl rfl (by simp only [nrmF]; rfl) rfl rfl ?_
          refine JE_dropAt 2 ?_
          refine JE_norm _ [osl _ _ _ _ _ _, box _ _ [_, _, _]] [_, _, _, _, _, _, _] rfl rfl rfl ?_
          refine JE_dropAt 1 ?_
          refine JE_norm _ [osl _ _ _ _ _ _] [_, _, _, _, _, _, _] rfl rfl rfl ?_
          refine JE_nextS (T, mrg a t, ad96, cap96) (by kernel_rfl) ?_ ?_ (by kernel_rfl) ?_
          · exact ⟨(pushB_go h62).symm.trans hp, hT.mrg, hc96.1⟩
          · simp only [List.length_cons]; omega
          · exact subset_app subset_nil (ssS (ssS (ssS ss0)))
        · refine JL_normL [_] ⟨99, [(66, _), (67, _), (68, _), (69, _), (70, _), (71, _), (72, _), (73, _), (74, _), (8, _), (9, _)], _⟩ [osl _ _ _ _ _ _, box _ _ [_, _, _], box _ _ [_, _, _]] [_, _, _, _] rfl rfl rfl rfl ?_
          generalize bs (0 + 1 + 1 + 1 + 1 + 1 + 1 + 1 + 1 + 1) = b8
          generalize bs (0 + 1 + 1 + 1 + 1 + 1 + 1 + 1 + 1 + 1 + 1) = b9
          refine JL_store (vs := [_, _, _]) 1 ty48 rfl rfl rfl (AllOne.cons rfl (AllOne.cons rfl (AllOne.cons rfl AllOne.nil))) rfl (Nat.le_of_ble_eq_true rfl) ?_
          refine JL_nil_up 99 [osl _ _ _ _ _ _, box _ _ [_, _, _], box _ _ [_, _, _]] [_, _, _, _] rfl rfl (by simp only [nrmF]; rfl) rfl rfl ?_
          refine JE_nextA ?_
          refine JA_step [12] (by kernel_rfl) (by simp) ⟨⟨_, rfl, ?_⟩, trivial⟩
          refine JL_store (vs := [_, _, _]) 2 ty48 rfl rfl rfl (AllOne.cons rfl (AllOne.cons rfl (AllOne.cons rfl AllOne.nil))) rfl (Nat.le_of_ble_eq_true rfl) ?_
          refine JL_nil_up 99 [osl _ _ _ _ _ _, box _ _ [_, _, _], box _ _ [_, _, _]] [_, _, _, _] rfl rfl (by simp only [nrmF]; rfl) rfl rfl ?_
          refine JE_nextA ?_
          refine JA_end (by kernel_rfl) ?_
          refine JE_then ?_
          refine JC_drawT mixed 21 [spV 75 [] _, spV 76 [] _, spV 77 [1] _, spV 78 [0, 2] _, spV 79 [] _, spV 80 [4] _, spV 81 [] _, spV 82 [6] _, spV 83 [5, 7] _, spV 84 [] _, spV 85 [9] _, spV 86 [] _, spV 87 [11] _, spV 88 [10, 12] _, spV 89 [] _, spV 90 [14] _, spV 91 [] _, spV 92 [16] _, spV 93 [15, 17] _, spV 94 [8, 13, 18] (.agg #[.int .i64 ((a.z + t.z : Nat) : Int), .int .i64 (a.s + t.s), .int .i64 (a.w + t.w)]), spC 95 [19] (fun v φo => ∃ g : Nat, v = .slice (some ⟨g, 0, none⟩) 1 1 ∧ φo = [vCells (some ⟨g, 0, none⟩) [.int .i64 ((a.z + t.z : Nat) : Int), .int .i64 (a.s + t.s), .int .i64 (a.w + t.w)]])] ⟨OblS_V (fun vals ex ψ => (by
              refine JL_normQ ⟨99, [(75, _), (76, _), (77, _), (78, _), (79, _), (80, _), (81, _), (82, _), (83, _), (84, _), (85, _), (86, _), (87, _), (88, _), (89, _), (90, _), (91, _), (92, _), (93, _), (94, _), (95, _)], _⟩ (_ :: _ :: _ :: _ :: ψ) rfl rfl ?_
              refine JL_move rfl ?_
              exact JL_nil (JE_stepV rfl ss0))), OblS_V (fun vals ex ψ => (by
              refine JL_normQ ⟨99, [(75, _), (76, _), (77, _), (78, _), (79, _), (80, _), (81, _), (82, _), (83, _), (84, _), (85, _), (86, _), (87, _), (88, _), (89, _), (90, _), (91, _), (92, _), (93, _), (94, _), (95, _)], _⟩ (_ :: _ :: _ :: _ :: ψ) rfl rfl ?_
              refine JL_move rfl ?_
              exact JL_nil (JE_stepV rfl ss0))), OblS_V (fun vals ex ψ => (by
              refine JL_normQ ⟨99, [(75, _), (76, _), (77, _), (78, _), (79, _), (80, _), (81, _), (82, _), (83, _), (84, _), (85, _), (86, _), (87, _), (88, _), (89, _), (90, _), (91, _), (92, _), (93, _), (94, _), (95, _)], _⟩ (_ :: _ :: _ :: _ :: ψ) rfl rfl ?_
              refine JL_sub_to rfl rfl (IntWalk.i64_in _ (by simp only [List.length_cons]; omega)) ?_
              rw [show ((((a :: T).length : Nat) : Int) - 1 : Int) = (T.length : Int) from by simp only [List.length_cons]; omega]
              exact JL_nil (JE_stepV rfl ss0))), OblS_V (fun vals ex ψ => (by
              refine JL_normQ ⟨99, [(75, _), (76, _), (77, _), (78, _), (79, _), (80, _), (81, _), (82, _), (83, _), (84, _), (85, _), (86, _), (87, _), (88, _), (89, _), (90, _), (91, _), (92, _), (93, _), (94, _), (95, _)], _⟩ (_ :: _ :: _ :: _ :: ψ) rfl rfl ?_
              refine JL_sliceTo T.length sl45 rfl rfl rfl (by simp only [List.length_cons] at hcap; omega) ?_
              exact JL_nil (JE_stepV rfl ss0))), OblS_V (fun vals ex ψ => (by
              refine JL_normQ ⟨99, [(75, _), (76, _), (77, _), (78, _), (79, _), (80, _), (81, _), (82, _), (83, _), (84, _), (85, _), (86, _), (87, _), (88, _), (89, _), (90, _), (91, _), (92, _), (93, _), (94, _), (95, _)], _⟩ (_ :: _ :: _ :: _ :: ψ) rfl rfl ?_
              refine JL_fieldAddr fo48_0 rfl ?_
              exact JL_nil (JE_stepV rfl ss0))), OblS_V (fun vals ex ψ => (by
              refine JL_normQ ⟨99, [(75, _), (76, _), (77, _), (78, _), (79, _), (80, _), (81, _), (82, _), (83, _), (84, _), (85, _), (86, _), (87, _), (88, _), (89, _), (90, _), (91, _), (92, _), (93, _), (94, _), (95, _)], _⟩ (_ :: _ :: _ :: _ :: ψ) rfl rfl ?_
              refine JL_load 1 ty3 rfl rfl rfl ?_
              exact JL_nil (JE_stepV rfl ss0))), OblS_V (fun vals ex ψ => (by
              refine JL_normQ ⟨99, [(75, _), (76, _), (77, _), (78, _), (79, _), (80, _), (81, _), (82, _), (83, _), (84, _), (85, _), (86, _), (87, _), (88, _), (89, _), (90, _), (91, _), (92, _), (93, _), (94, _), (95, _)], _⟩ (_ :: _ :: _ :: _ :: ψ) rfl rfl ?_
              refine JL_fieldAddr fo48_0 rfl ?_
              exact JL_nil (JE_stepV rfl ss0))), OblS_V (fun vals ex ψ => (by
              refine JL_normQ ⟨99, [(75, _), (76, _), (77, _), (78, _), (79, _), (80, _), (81, _), (82, _), (83, _), (84, _), (85, _), (86, _), (87, _), (88, _), (89, _), (90, _), (91, _), (92, _), (93, _), (94, _), (95, _)], _⟩ (_ :: _ :: _ :: _ :: ψ) rfl rfl ?_
              refine JL_load 2 ty3 rfl rfl rfl ?_
              exact JL_nil (JE_stepV rfl ss0))), OblS_V (fun vals ex ψ => (by
              refine JL_normQ ⟨99, [(75, _), (76, _), (77, _), (78, _), (79, _), (80, _), (81, _), (82, _), (83, _), (84, _), (85, _), (86, _), (87, _), (88, _), (89, _), (90, _), (91, _), (92, _), (93, _), (94, _), (95, _)], _⟩ (_ :: _ :: _ :: _ :: ψ) rfl rfl ?_
              refine JL_add_to rfl rfl (IntWalk.i64_in _ (by omega)) ?_
              rw [show ((a.z : Int) + (t.z : Int) : Int) = ((a.z + t.z : Nat) : Int) from by omega]
              exact JL_nil (JE_stepV rfl ss0))), OblS_V (fun vals ex ψ => (by
              refine JL_normQ ⟨99, [(75, _), (76, _), (77, _), (78, _), (79, _), (80, _), (81, _), (82, _), (83, _), (84, _), (85, _), (86, _), (87, _), (88, _), (89, _), (90, _), (91, _), (92, _), (93, _), (94, _), (95, _)], _⟩ (_ :: _ :: _ :: _ :: ψ) rfl rfl ?_
              refine JL_fieldAddr fo48_1 rfl ?_
              exact JL_nil (JE_stepV rfl ss0))), OblS_V (fun vals ex ψ => (by
              refine JL_normQ ⟨99, [(75, _), (76, _), (77, _), (78, _), (79, _), (80, _), (81, _), (82, _), (83, _), (84, _), (85, _), (86, _), (87, _), (88, _), (89, _), (90, _), (91, _), (92, _), (93, _), (94, _), (95, _)], _⟩ (_ :: _ :: _ :: _ :: ψ) rfl rfl ?_
              refine JL_load 1 ty3 rfl rfl rfl ?_
              exact JL_nil (JE_stepV rfl ss0))), OblS_V (fun vals ex ψ => (by
              refine JL_normQ ⟨99, [(75, _), (76, _), (77, _), (78, _), (79, _), (80, _), (81, _), (82, _), (83, _), (84, _), (85, _), (86, _), (87, _), (88, _), (89, _), (90, _), (91, _), (92, _), (93, _), (94, _), (95, _)], _⟩ (_ :: _ :: _ :: _ :: ψ) rfl rfl ?_
              refine JL_fieldAddr fo48_1 rfl ?_
              exact JL_nil (JE_stepV rfl ss0))), OblS_V (fun vals ex ψ => (by
              refine JL_normQ ⟨99, [(75, _), (76, _), (77, _), (78, _), (79, _), (80, _), (81, _), (82, _), (83, _), (84, _), (85, _), (86, _), (87, _), (88, _), (89, _), (90, _), (91, _), (92, _), (93, _), (94, _), (95, _)], _⟩ (_ :: _ :: _ :: _ :: ψ) rfl rfl ?_
              refine JL_load 2 ty3 rfl rfl rfl ?_
              exact JL_nil (JE_stepV rfl ss0))), OblS_V (fun vals ex ψ => (by
              refine JL_normQ ⟨99, [(75, _), (76, _), (77, _), (78, _), (79, _), (80, _), (81, _), (82, _), (83, _), (84, _), (85, _), (86, _), (87, _), (88, _), (89, _), (90, _), (91, _), (92, _), (93, _), (94, _), (95, _)], _⟩ (_ :: _ :: _ :: _ :: ψ) rfl rfl ?_
              refine JL_add_to rfl rfl (IntWalk.i64_in _ (by omega)) ?_
              exact JL_nil (JE_stepV rfl ss0))), OblS_V (fun vals ex ψ => (by
              refine JL_normQ ⟨99, [(75, _), (76, _), (77, _), (78, _), (79, _), (80, _), (81, _), (82, _), (83, _), (84, _), (85, _), (86, _), (87, _), (88, _), (89, _), (90, _), (91, _), (92, _), (93, _), (94, _), (95, _)], _⟩ (_ :: _ :: _ :: _ :: ψ) rfl rfl ?_
              refine JL_fieldAddr fo48_2 rfl ?_
              exact JL_nil (JE_stepV rfl ss0))), OblS_V (fun vals ex ψ => (by
              refine JL_normQ ⟨99, [(75, _), (76, _), (77, _), (78, _), (79, _), (80, _), (81, _), (82, _), (83, _), (84, _), (85, _), (86, _), (87, _), (88, _), (89, _), (90, _), (91, _), (92, _), (93, _), (94, _), (95, _)], _⟩ (_ :: _ :: _ :: _ :: ψ) rfl rfl ?_
              refine JL_load 1 ty3 rfl rfl rfl ?_
              exact JL_nil (JE_stepV rfl ss0))), OblS_V (fun vals ex ψ => (by
              refine JL_normQ ⟨99, [(75, _), (76, _), (77, _), (78, _), (79, _), (80, _), (81, _), (82, _), (83, _), (84, _), (85, _), (86, _), (87, _), (88, _), (89, _), (90, _), (91, _), (92, _), (93, _), (94, _), (95, _)], _⟩ (_ :: _ :: _ :: _ :: ψ) rfl rfl ?_
              refine JL_fieldAddr fo48_2 rfl ?_
              exact JL_nil (JE_stepV rfl ss0))), OblS_V (fun vals ex ψ => (by
              refine JL_normQ ⟨99, [(75, _), (76, _), (77, _), (78, _), (79, _), (80, _), (81, _), (82, _), (83, _), (84, _), (85, _), (86, _), (87, _), (88, _), (89, _), (90, _), (91, _), (92, _), (93, _), (94, _), (95, _)], _⟩ (_ :: _ :: _ :: _ :: ψ) rfl rfl ?_
              refine JL_load 2 ty3 rfl rfl rfl ?_
              exact JL_nil (JE_stepV rfl ss0))), OblS_V (fun vals ex ψ => (by
              refine JL_normQ ⟨99, [(75, _), (76, _), (77, _), (78, _), (79, _), (80, _), (81, _), (82, _), (83, _), (84, _), (85, _), (86, _), (87, _), (88, _), (89, _), (90, _), (91, _), (92, _), (93, _), (94, _), (95, _)], _⟩ (_ :: _ :: _ :: _ :: ψ) rfl rfl ?_
              refine JL_add_to rfl rfl (IntWalk.i64_in _ (by omega)) ?_
              exact JL_nil (JE_stepV rfl ss0))), OblS_V (fun vals ex ψ => (by
              refine JL_normQ ⟨99, [(75, _), (76, _), (77, _), (78, _), (79, _), (80, _), (81, _), (82, _), (83, _), (84, _), (85, _), (86, _), (87, _), (88, _), (89, _), (90, _), (91, _), (92, _), (93, _), (94, _), (95, _)], _⟩ (_ :: _ :: _ :: _ :: ψ) rfl rfl ?_
              refine JL_build (cs := [_, _, _]) [(0, [_]), (1, [_]), (2, [_])] st48 ⟨⟨rfl, _, rfl, rfl⟩, ⟨rfl, _, rfl, rfl⟩, ⟨rfl, _, rfl, rfl⟩, rfl⟩ rfl ?_
              exact JL_nil (JE_stepV rfl ss0))), OblS_C (fun vals ex ψ => (by
              refine JL_normQ ⟨99, [(75, _), (76, _), (77, _), (78, _), (79, _), (80, _), (81, _), (82, _), (83, _), (84, _), (85, _), (86, _), (87, _), (88, _), (89, _), (90, _), (91, _), (92, _), (93, _), (94, _), (95, _)], _⟩ (_ :: _ :: _ :: _ :: ψ) rfl rfl ?_
              refine JL_buildN (cs0 := [.int .i64 0, .int .i64 0, .int .i64 0]) (cs := [_, _, _]) [(0, [_, _, _])] sl45 (by kernel_rfl) ⟨⟨rfl, _, rfl, rfl⟩, rfl⟩ rfl rfl rfl rfl (fun g95 => ?_)
              refine JL_giveLast ?_
              exact JL_nil (JE_stepC [vCells (some ⟨g95, 0, none⟩) [.int .i64 ((a.z + t.z : Nat) : Int), .int .i64 (a.s + t.s), .int .i64 (a.w + t.w)]] rfl ⟨g95, rfl, rfl⟩ (all_cons (by repeat (first | with_reducible exact mm0 | refine mmS ?_)) all_nil) (ssS ss0)))), trivial⟩ (by kernel_rfl) (fun vals bs => ?_)
          refine JL_normL [_, _] ⟨99, [(75, _), (76, _), (77, _), (78, _), (79, _), (80, _), (81, _), (82, _), (83, _), (84, _), (85, _), (86, _), (87, _), (88, _), (89, _), (90, _), (91, _), (92, _), (93, _), (94, _), (95, _)], _⟩ [osl _ _ _ _ _ _, box _ _ [_, _, _], box _ _ [_, _, _]] [_, _, _, _, _] rfl rfl rfl rfl ?_
          generalize vals (0 + 1 + 1 + 1 + 1 + 1 + 1 + 1 + 1 + 1 + 1 + 1 + 1 + 1 + 1 + 1 + 1 + 1 + 1 + 1 + 1) = x95
          refine JL_usePost mm0 (fun φo hP => ?_)
          obtain ⟨g95, rfl, rfl⟩ := hP
          refine JL_norm _ [osl _ _ _ _ _ _, box _ _ [_, _, _], box _ _ [_, _, _]] [_, _, _, _, _, _] rfl rfl rfl ?_
          refine JL_conv (fun _ s => s.short 0 (T.length) rfl (by simp only [List.length_cons]; omega)) ?_
          refine JL_norm _ [osl _ _ _ _ _ _, box _ _ [_, _, _], box _ _ [_, _, _]] [_, _, _, _, _, _] rfl rfl rfl ?_
          rw [bcells_short T t a]
          refine JL_append (news := [_, _, _]) 0 sl45 rfl (by decide) rfl rfl rfl rfl (Reads.view (by repeat (first | with_reducible exact mm0 | refine mmS ?_))) (AllOne.cons rfl (AllOne.cons rfl (AllOne.cons rfl AllOne.nil))) (by omega) (by omega) (fun ad96 cap96 hc96 => ?_)
          refine JL_norm _ [osl _ _ _ _ _ _, box _ _ [_, _, _], box _ _ [_, _, _]] [_, _, _, _, _, _] rfl rfl rfl ?_
          rw [show bcells T.reverse ++ [.int .i64 ((a.z + t.z : Nat) : Int), .int .i64 (a.s + t.s), .int .i64 (a.w + t.w)] = bcells (mrg a t :: T).reverse from bcells_snoc T (mrg a t)]
          refine JL_assign rfl ?_
          refine JL_nil_up 99 [osl _ _ _ _ _ _, box _ _ [_, _, _], box _ _ [_, _, _]] [_, _, _, _, _, _] rfl rfl (by simp only [nrmF]; rfl) rfl rfl ?_
          refine JE_block_normal ?_
          refine JE_then ?_
          refine JC_region ?_
          refine JL_move rfl ?_
          refine JL_sub_to rfl rfl (IntWalk.i64_in _ (by simp only [List.length_cons]; omega)) ?_
          rw [show ((((a :: T).length : Nat) : Int) - 1 : Int) = (T.length : Int) from by simp only [List.length_cons]; omega]
          refine JL_assign rfl ?_
          refine JL_nil_up 99 [osl _ _ _ _ _ _, box _ _ [_, _, _], box _ _ [_, _, _]] [_, _, _, _, _, _] rfl rfl (by simp only [nrmF]; rfl) rfl rfl ?_
          refine JE_dropAt 2 ?_
          refine JE_norm _ [osl _ _ _ _ _ _, box _ _ [_, _, _]] [_, _, _, _, _, _] rfl rfl rfl ?_
          refine JE_dropAt 1 ?_
          refine JE_norm _ [osl _ _ _ _ _ _] [_, _, _, _, _, _] rfl rfl rfl ?_
          refine JE_nextS (T, mrg a t, ad96, cap96) (by kernel_rfl) ?_ ?_ (by kernel_rfl) ?_
          · exact ⟨(pushB_go h62).symm.trans hp, hT.mrg, hc96.1⟩
          · simp only [List.length_cons]; omega
          · exact subset_app subset_nil (ssS (ssS ss0))
      · refine JL_pick_t rfl rfl ?_
        refine JL_done_up 99 [osl _ _ _ _ _ _] [_, _, _, _] rfl rfl (by simp only [nrmF]; rfl) rfl rfl ?_
        refine JC_false rfl ?_
        refine JC_exit ?_
        refine JE_then_exit ?_
        refine JE_nextS_exit ?_
        refine JE_block_exit ?_
        refine JE_block_normal ?_
        refine JE_then ?_
        refine JC_region ?_
        refine JL_add_to rfl rfl (IntWalk.i64_in _ (by omega)) ?_
        refine JL_move rfl ?_
        refine JL_nil_up 99 [osl _ _ _ _ _ _] [_, _, _, _] rfl rfl (by simp only [nrmF]; rfl) rfl rfl ?_
        refine JE_nextS (k + 1, t :: a :: T, ad1, cap1) (by kernel_rfl) ?_ ?_ (by kernel_rfl) ?_
        · exact ⟨by omega, (pushB_end h62).symm.trans hp⟩
        · first | omega | (dsimp only; omega)
        · exact subset_app subset_nil (ssS (ssS ss0))
  · refine JL_done_up 99 [osl _ _ _ _ _ _] [_, _] rfl rfl (by simp only [nrmF]; rfl) rfl rfl ?_
    refine JC_seq ?_
    refine JC_false rfl ?_
    refine JC_exit ?_
    refine JE_then_exit ?_
    refine JE_nextS_exit ?_
    refine JE_block_exit ?_
    refine JE_then ?_
    refine JC_seq ?_
    refine JC_region ?_
    refine JL_move rfl ?_
    refine JL_assign rfl ?_
    refine JL_done_up 99 [osl _ _ _ _ _ _] [_, _] rfl rfl (by simp only [nrmF]; rfl) rfl rfl ?_
    refine JC_ret ?_
    have hkn : k = V.length := by omega
    subst hkn
    subst hS
    refine JE_give 0 rfl ?_
    refine JE_norm _ [] [_, _, _] rfl rfl rfl ?_
    refine JE_ret (vs := [_]) [vCells ad (bcells (blkR V W V.length).reverse)] Tryd.results17 ⟨rfl, rfl⟩ ?_ ?_
    · exact ⟨ad, cap, by rw [blkL, List.length_reverse]; rfl, rfl⟩
    · exact (all_cons (by repeat (first | with_reducible exact mm0 | refine mmS ?_)) all_nil)

end Go.Fw.K
