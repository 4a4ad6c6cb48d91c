/- Walks through functions of the given program: each meets its contract. (Printed by a program of this repo.) -/
import Derived.Test.YtgfldmhpindbpaaGreatDoorG
import Derived.Test.YtgfldmhpindbpaaGreatDoorFrL
import Derived.Test.YtgfldmhpindbpaaGreatDoorProg
namespace Go.Fw.C4
open Go Go.RowKit Go.Proofs Go.Nat9 Go.Fw
attribute [local irreducible] JC JL JE
theorem ca24 : callable Tryz.prog 24 = true := by kernel_rfl
theorem ca42 : callable Tryz.prog 42 = true := by kernel_rfl
theorem ca43 : callable Tryz.prog 43 = true := by kernel_rfl
theorem mixed : Tryz.prog.follows .mixedOrders = true := by kernel_rfl
theorem sl22 : slOf Tryz.prog 22 = some (3, 1, 8, [.int .i64 0]) := by kernel_rfl
theorem ty3 : tyOf Tryz.prog 3 = some (false, 1) := by kernel_rfl
theorem ty30 : tyOf Tryz.prog 30 = some (true, 3) := by kernel_rfl
theorem z30 : zeroOf Tryz.prog 30 = some [.bool false, .slice none 0 0, .slice none 0 0] := by kernel_rfl
end Go.Fw.C4
namespace Go.Fw.K
open Go Go.RowKit Go.Proofs Go.Nat9 Go.Fw Go.Fw.C4
attribute [local irreducible] JC JL JE

theorem bsize_con {n m : Int} (hm : 0 ≤ m) (hm2 : m ≤ 1000000000000) :
    ConF Tryz.prog 42 [.int .i64 n, .int .i64 m] []
      (fun v φo => v = .bool (decide (-m ≤ n ∧ n ≤ m)) ∧ φo = []) := by
  refine ConF_of Tryz.func42 rfl 14 _ rfl rfl ?_
  intro w0
  refine JC_norm ⟨14, [], [_, _, _, _, _, _, _, _, _, _, _, _, _, _]⟩ [] [] rfl rfl rfl ?_
  refine JC_seq ?_
  refine JC_region ?_
  refine JL_assign rfl ?_
  refine JL_done_up 14 [] [] rfl rfl (by simp only [nrmF]; rfl) rfl rfl ?_
  refine JC_seq ?_
  refine JC_region ?_
  refine JL_move rfl ?_
  refine JL_move rfl ?_
  refine JL_neg_to rfl (IntWalk.i64_in _ (by omega)) ?_
  refine JL_geq rfl rfl ?_
  refine JL_split (fun h8 => ?_) (fun h8 => ?_)
  · refine JL_move rfl ?_
    refine JL_guard_yes rfl rfl ?_
    refine JL_move rfl ?_
    refine JL_guard_yes rfl rfl ?_
    refine JL_move rfl ?_
    refine JL_guard_yes rfl rfl ?_
    refine JL_leq rfl rfl ?_
    refine JL_split (fun h12 => ?_) (fun h12 => ?_)
    · refine JL_pick_t rfl rfl ?_
      refine JL_assign rfl ?_
      refine JL_done_up 14 [] [] rfl rfl (by simp only [nrmF]; rfl) rfl rfl ?_
      refine JC_ret ?_
      refine JE_ret (vs := [_]) [] Tryz.results42 ⟨rfl, rfl⟩ ?_ ?_
      · rw [decide_eq_true (by omega)]; exact ⟨rfl, rfl⟩
      · exact all_nil
    · refine JL_pick_t rfl rfl ?_
      refine JL_assign rfl ?_
      refine JL_done_up 14 [] [] rfl rfl (by simp only [nrmF]; rfl) rfl rfl ?_
      refine JC_ret ?_
      refine JE_ret (vs := [_]) [] Tryz.results42 ⟨rfl, rfl⟩ ?_ ?_
      · rw [decide_eq_false (by omega)]; exact ⟨rfl, rfl⟩
      · exact all_nil
  · refine JL_move rfl ?_
    refine JL_guard_no rfl rfl ?_
    refine JL_guard_no rfl rfl ?_
    refine JL_guard_no rfl rfl ?_
    refine JL_pick_f rfl rfl ?_
    refine JL_assign rfl ?_
    refine JL_done_up 14 [] [] rfl rfl (by simp only [nrmF]; rfl) rfl rfl ?_
    refine JC_ret ?_
    refine JE_ret (vs := [_]) [] Tryz.results42 ⟨rfl, rfl⟩ ?_ ?_
    · rw [decide_eq_false (by omega)]; exact ⟨rfl, rfl⟩
    · exact all_nil

theorem bin_con {n lo hi : Int} :
    ConF Tryz.prog 43 [.int .i64 n, .int .i64 lo, .int .i64 hi] []
      (fun v φo => v = .bool (decide (lo ≤ n ∧ n ≤ hi)) ∧ φo = []) := by
  refine ConF_of Tryz.func43 rfl 15 _ rfl rfl ?_
  intro w0
  refine JC_norm ⟨15, [], [_, _, _, _, _, _, _, _, _, _, _, _, _, _, _]⟩ [] [] rfl rfl rfl ?_
  refine JC_seq ?_
  refine JC_region ?_
  refine JL_assign rfl ?_
  refine JL_done_up 15 [] [] rfl rfl (by simp only [nrmF]; rfl) rfl rfl ?_
  refine JC_seq ?_
  refine JC_region ?_
  refine JL_move rfl ?_
  refine JL_move rfl ?_
  refine JL_geq rfl rfl ?_
  refine JL_split (fun h9 => ?_) (fun h9 => ?_)
  · refine JL_move rfl ?_
    refine JL_guard_yes rfl rfl ?_
    refine JL_move rfl ?_
    refine JL_guard_yes rfl rfl ?_
    refine JL_move rfl ?_
    refine JL_guard_yes rfl rfl ?_
    refine JL_leq rfl rfl ?_
    refine JL_split (fun h13 => ?_) (fun h13 => ?_)
    · refine JL_pick_t rfl rfl ?_
      refine JL_assign rfl ?_
      refine JL_done_up 15 [] [] rfl rfl (by simp only [nrmF]; rfl) rfl rfl ?_
      refine JC_ret ?_
      refine JE_ret (vs := [_]) [] Tryz.results43 ⟨rfl, rfl⟩ ?_ ?_
      · rw [decide_eq_true (by omega)]; exact ⟨rfl, rfl⟩
      · exact all_nil
    · refine JL_pick_t rfl rfl ?_
      refine JL_assign rfl ?_
      refine JL_done_up 15 [] [] rfl rfl (by simp only [nrmF]; rfl) rfl rfl ?_
      refine JC_ret ?_
      refine JE_ret (vs := [_]) [] Tryz.results43 ⟨rfl, rfl⟩ ?_ ?_
      · rw [decide_eq_false (by omega)]; exact ⟨rfl, rfl⟩
      · exact all_nil
  · refine JL_move rfl ?_
    refine JL_guard_no rfl rfl ?_
    refine JL_guard_no rfl rfl ?_
    refine JL_guard_no rfl rfl ?_
    refine JL_pick_f rfl rfl ?_
    refine JL_assign rfl ?_
    refine JL_done_up 15 [] [] rfl rfl (by simp only [nrmF]; rfl) rfl rfl ?_
    refine JC_ret ?_
    refine JE_ret (vs := [_]) [] Tryz.results43 ⟨rfl, rfl⟩ ?_ ?_
    · rw [decide_eq_false (by omega)]; exact ⟨rfl, rfl⟩
    · exact all_nil

theorem rdata_con {adv adw : Option Addr} {cv cw : Nat} {V W : List Int} :
    ConF Tryz.prog 23 [.slice adv V.length cv, .slice adw W.length cw] [vCells adv (i64s V), vCells adw (i64s W)]
      (fun v φo => v = .int .i64 (chk V W) ∧ φo = []) := by
  refine ConF_of Tryz.func23 rfl 39 _ rfl rfl ?_
  intro w0
  refine JC_norm ⟨39, [], [_, _, _, _, _, _, _, _, _, _, _, _, _, _, _, _, _, _, _, _, _, _, _, _, _, _, _, _, _, _, _, _, _, _, _, _, _, _, _]⟩ [] [_, _] rfl rfl rfl ?_
  refine JC_seq ?_
  refine JC_region ?_
  refine JL_assign rfl ?_
  refine JL_done_up 39 [] [_, _] rfl rfl (by simp only [nrmF]; rfl) rfl rfl ?_
  refine JC_seq ?_
  refine JC_seq ?_
  refine JC_region ?_
  refine JL_move rfl ?_
  refine JL_len sl22 rfl ?_
  refine JL_gtr rfl rfl ?_
  refine JL_split (fun h8 => ?_) (fun h8 => ?_)
  · refine JL_move rfl ?_
    refine JL_guard_no rfl rfl ?_
    refine JL_guard_no rfl rfl ?_
    refine JL_guard_no rfl rfl ?_
    refine JL_pick_t rfl rfl ?_
    refine JL_done_up 39 [] [_, _] rfl rfl (by simp only [nrmF]; rfl) rfl rfl ?_
    refine JC_true rfl ?_
    refine JC_seq ?_
    refine JC_region ?_
    refine JL_assign rfl ?_
    refine JL_done_up 39 [] [_, _] rfl rfl (by simp only [nrmF]; rfl) rfl rfl ?_
    refine JC_ret ?_
    refine JE_then_ret ?_
    refine JE_ret (vs := [_]) [] Tryz.results23 ⟨rfl, rfl⟩ ?_ ?_
    · rw [chk_full (by omega)]; exact ⟨rfl, rfl⟩
    · exact all_nil
  · refine JL_move rfl ?_
    refine JL_guard_yes rfl rfl ?_
    refine JL_move rfl ?_
    refine JL_guard_yes rfl rfl ?_
    refine JL_len sl22 rfl ?_
    refine JL_guard_yes rfl rfl ?_
    refine JL_gtr rfl rfl ?_
    refine JL_split (fun h12 => ?_) (fun h12 => ?_)
    · refine JL_pick_f rfl rfl ?_
      refine JL_done_up 39 [] [_, _] rfl rfl (by simp only [nrmF]; rfl) rfl rfl ?_
      refine JC_true rfl ?_
      refine JC_seq ?_
      refine JC_region ?_
      refine JL_assign rfl ?_
      refine JL_done_up 39 [] [_, _] rfl rfl (by simp only [nrmF]; rfl) rfl rfl ?_
      refine JC_ret ?_
      refine JE_then_ret ?_
      refine JE_ret (vs := [_]) [] Tryz.results23 ⟨rfl, rfl⟩ ?_ ?_
      · rw [chk_full (by omega)]; exact ⟨rfl, rfl⟩
      · exact all_nil
    · refine JL_pick_f rfl rfl ?_
      refine JL_done_up 39 [] [_, _] rfl rfl (by simp only [nrmF]; rfl) rfl rfl ?_
      refine JC_false rfl ?_
      refine JC_skip ?_
      refine JE_then ?_
      refine JC_seq ?_
      refine JC_seq ?_
      refine JC_region ?_
      refine JL_move rfl ?_
      refine JL_len sl22 rfl ?_
      refine JL_move rfl ?_
      refine JL_len sl22 rfl ?_
      refine JL_neq rfl rfl ?_
      refine JL_split (fun h18 => ?_) (fun h18 => ?_)
      · refine JL_done_up 39 [] [_, _] rfl rfl (by simp only [nrmF]; rfl) rfl rfl ?_
        refine JC_true rfl ?_
        refine JC_seq ?_
        refine JC_region ?_
        refine JL_assign rfl ?_
        refine JL_done_up 39 [] [_, _] rfl rfl (by simp only [nrmF]; rfl) rfl rfl ?_
        refine JC_ret ?_
        refine JE_then_ret ?_
        refine JE_ret (vs := [_]) [] Tryz.results23 ⟨rfl, rfl⟩ ?_ ?_
        · rw [chk_len (by omega) (by omega)]; exact ⟨rfl, rfl⟩
        · exact all_nil
      · refine JL_done_up 39 [] [_, _] rfl rfl (by simp only [nrmF]; rfl) rfl rfl ?_
        refine JC_false rfl ?_
        refine JC_skip ?_
        refine JE_then ?_
        refine JC_seq ?_
        refine JC_seq ?_
        refine JC_region ?_
        refine JL_assign rfl ?_
        refine JL_done_up 39 [] [_, _] rfl rfl (by simp only [nrmF]; rfl) rfl rfl ?_
        refine JC_block ?_
        refine JC_loopS ((Nat)) (fun (k : Nat) => k ≤ V.length ∧ okTo V W k) (fun (k : Nat) => V.length - k) (fun u (k : Nat) => [none, none, none, none, some (u 4), some (.int .i64 (k : Nat)), none, none, none, none, none, none, none, none, none, none, none, none, none, some (u 19), some (u 20), some (u 21), some (u 22), some (u 23), some (u 24), some (u 25), some (u 26), some (u 27), some (u 28), some (u 29), some (u 30), some (u 31), some (u 32), some (u 33), some (u 34), some (u 35), some (u 36), some (u 37), some (u 38)]) (fun (k : Nat) => []) (fun (k : Nat) => []) (0) (by kernel_rfl) ?_ (by kernel_rfl) ?_ ?_
        · exact ⟨Nat.zero_le _, okTo_zero V W⟩
        · exact subset_nil
        intro u k hC
        obtain ⟨hk, hok⟩ := hC
        refine JC_norm ⟨39, [], [_, _, _, _, _, _, _, _, _, _, _, _, _, _, _, _, _, _, _, _, _, _, _, _, _, _, _, _, _, _, _, _, _, _, _, _, _, _, _]⟩ [] [_, _] rfl rfl rfl ?_
        refine JC_seq ?_
        refine JC_seq ?_
        refine JC_region ?_
        refine JL_move rfl ?_
        refine JL_move rfl ?_
        refine JL_len sl22 rfl ?_
        refine JL_lss rfl rfl ?_
        refine JL_split (fun h22 => ?_) (fun h22 => ?_)
        · refine JL_done_up 39 [] [_, _] rfl rfl (by simp only [nrmF]; rfl) rfl rfl ?_
          refine JC_true rfl ?_
          refine JC_skip ?_
          refine JE_then ?_
          refine JC_seq ?_
          refine JC_block ?_
          refine JC_seq ?_
          refine JC_region ?_
          refine JL_move rfl ?_
          refine JL_move rfl ?_
          refine JL_idx k sl22 rfl rfl rfl (by omega) (by first | exact Reads.view (by repeat (first | with_reducible exact mm0 | refine mmS ?_))) (by first | (rw [u32s_length]; omega) | (rw [i64s_length]; omega)) ?_
          refine JL_loadE ty3 rfl (by first | exact Reads.view (by repeat (first | with_reducible exact mm0 | refine mmS ?_))) (i64s_get (by omega)) ?_
          refine JL_callF' Asks.nil (bsize_con (by omega) (by omega)) rfl ca42 ⟨rfl, rfl, rfl⟩ ?_
          rintro _ _ ⟨rfl, rfl⟩
          refine JL_split (fun h29 => ?_) (fun h29 => ?_)
          · refine JL_not rfl ?_
            rw [Bool.not_true]
            refine JL_move rfl ?_
            refine JL_guard_yes rfl rfl ?_
            refine JL_move rfl ?_
            refine JL_guard_yes rfl rfl ?_
            refine JL_move rfl ?_
            refine JL_guard_yes rfl rfl ?_
            refine JL_idx k sl22 rfl rfl rfl (by omega) (by first | exact Reads.view (by repeat (first | with_reducible exact mm0 | refine mmS ?_))) (by first | (rw [u32s_length]; omega) | (rw [i64s_length]; omega)) ?_
            refine JL_guard_yes rfl rfl ?_
            refine JL_loadE ty3 rfl (by first | exact Reads.view (by repeat (first | with_reducible exact mm0 | refine mmS ?_))) (i64s_get (by omega)) ?_
            refine JL_guard_yes rfl rfl ?_
            refine JL_callF' Asks.nil (bin_con) rfl ca43 ⟨rfl, rfl, rfl, rfl⟩ ?_
            rintro _ _ ⟨rfl, rfl⟩
            refine JL_split (fun h36 => ?_) (fun h36 => ?_)
            · refine JL_guard_yes rfl rfl ?_
              refine JL_not rfl ?_
              rw [Bool.not_true]
              refine JL_pick_f rfl rfl ?_
              refine JL_done_up 39 [] [_, _] rfl rfl (by simp only [nrmF]; rfl) rfl rfl ?_
              refine JC_false rfl ?_
              refine JC_skip ?_
              refine JE_block_normal ?_
              refine JE_then ?_
              refine JC_region ?_
              refine JL_move rfl ?_
              refine JL_add_to rfl rfl (IntWalk.i64_in _ (by omega)) ?_
              refine JL_assign rfl ?_
              refine JL_nil_up 39 [] [_, _] rfl rfl (by simp only [nrmF]; rfl) rfl rfl ?_
              refine JE_nextS (k + 1) (by kernel_rfl) ?_ ?_ (by kernel_rfl) ?_
              · exact ⟨by omega, hok.succ ⟨by omega, by omega, by omega, by omega⟩⟩
              · first | omega | (dsimp only; omega)
              · exact subset_app subset_nil ss0
            · refine JL_guard_yes rfl rfl ?_
              refine JL_not rfl ?_
              rw [Bool.not_false]
              refine JL_pick_f rfl rfl ?_
              refine JL_done_up 39 [] [_, _] rfl rfl (by simp only [nrmF]; rfl) rfl rfl ?_
              refine JC_true rfl ?_
              refine JC_seq ?_
              refine JC_region ?_
              refine JL_assign rfl ?_
              refine JL_done_up 39 [] [_, _] rfl rfl (by simp only [nrmF]; rfl) rfl rfl ?_
              refine JC_ret ?_
              refine JE_block_ret ?_
              refine JE_then_ret ?_
              refine JE_nextS_ret ?_
              refine JE_block_ret ?_
              refine JE_then_ret ?_
              have hbad : ¬ okAt V W k := fun h => by obtain ⟨a, b, c, d⟩ := h; omega
              refine JE_ret (vs := [_]) [] Tryz.results23 ⟨rfl, rfl⟩ ?_ ?_
              · rw [chk_bad (by omega) (by omega) (i := k) (by omega) hbad]; exact ⟨rfl, rfl⟩
              · exact all_nil
          · refine JL_not rfl ?_
            rw [Bool.not_false]
            refine JL_move rfl ?_
            refine JL_guard_no rfl rfl ?_
            refine JL_guard_no rfl rfl ?_
            refine JL_guard_no rfl rfl ?_
            refine JL_guard_no rfl rfl ?_
            refine JL_guard_no rfl rfl ?_
            refine JL_guard_no rfl rfl ?_
            refine JL_pick_t rfl rfl ?_
            refine JL_done_up 39 [] [_, _] rfl rfl (by simp only [nrmF]; rfl) rfl rfl ?_
            refine JC_true rfl ?_
            refine JC_seq ?_
            refine JC_region ?_
            refine JL_assign rfl ?_
            refine JL_done_up 39 [] [_, _] rfl rfl (by simp only [nrmF]; rfl) rfl rfl ?_
            refine JC_ret ?_
            refine JE_block_ret ?_
            refine JE_then_ret ?_
            refine JE_nextS_ret ?_
            refine JE_block_ret ?_
            refine JE_then_ret ?_
            have hbad : ¬ okAt V W k := fun h => by obtain ⟨a, b, c, d⟩ := h; omega
            refine JE_ret (vs := [_]) [] Tryz.results23 ⟨rfl, rfl⟩ ?_ ?_
            · rw [chk_bad (by omega) (by omega) (i := k) (by omega) hbad]; exact ⟨rfl, rfl⟩
            · exact all_nil
        · refine JL_done_up 39 [] [_, _] rfl rfl (by simp only [nrmF]; rfl) rfl rfl ?_
          refine JC_false rfl ?_
          refine JC_exit ?_
          refine JE_then_exit ?_
          refine JE_nextS_exit ?_
          refine JE_block_exit ?_
          refine JE_then ?_
          refine JC_seq ?_
          refine JC_region ?_
          refine JL_assign rfl ?_
          refine JL_done_up 39 [] [_, _] rfl rfl (by simp only [nrmF]; rfl) rfl rfl ?_
          refine JC_ret ?_
          refine JE_ret (vs := [_]) [] Tryz.results23 ⟨rfl, rfl⟩ ?_ ?_
          · rw [chk_ok (by omega) (by omega) (fun i hi => hok i (by omega))]; exact ⟨rfl, rfl⟩
          · exact all_nil

theorem rmean_con {adv adw : Option Addr} {cv cw : Nat} {V W : List Int} {i j : Nat} (hz : chk V W = 0) (hij : i < j) (hj : j ≤ V.length) :
    ConF Tryz.prog 54 [.slice adv V.length cv, .slice adw W.length cw, .int .i64 (i : Int), .int .i64 (j : Int)] [vCells adv (i64s V), vCells adw (i64s W)]
      (FO (some (meanq V W i j))) := by
  obtain ⟨hn, hvw, hok⟩ := chk_zero hz
  refine ConF_of Tryz.func54 rfl 38 _ rfl rfl ?_
  intro w0
  refine JC_norm ⟨38, [], [_, _, _, _, _, _, _, _, _, _, _, _, _, _, _, _, _, _, _, _, _, _, _, _, _, _, _, _, _, _, _, _, _, _, _, _, _, _]⟩ [] [_, _] rfl rfl rfl ?_
  refine JC_seq ?_
  refine JC_region ?_
  refine JL_alloc z30 (fun b8 => ?_)
  refine JL_done_up 38 [box _ _ [_, _, _]] [_, _] rfl rfl (by simp only [nrmF]; rfl) rfl rfl ?_
  refine JC_seq ?_
  refine JC_region ?_
  refine JL_assign rfl ?_
  refine JL_assign rfl ?_
  refine JL_done_up 38 [box _ _ [_, _, _]] [_, _] rfl rfl (by simp only [nrmF]; rfl) rfl rfl ?_
  refine JC_seq ?_
  refine JC_seq ?_
  refine JC_region ?_
  refine JL_move rfl ?_
  refine JL_assign rfl ?_
  refine JL_done_up 38 [box _ _ [_, _, _]] [_, _] rfl rfl (by simp only [nrmF]; rfl) rfl rfl ?_
  refine JC_block ?_
  refine JC_loopS ((Nat)) (fun (d : Nat) => d ≤ j - i) (fun (d : Nat) => j - i - d) (fun u (d : Nat) => [none, none, none, none, none, none, none, none, none, some (.int .i64 (vsum V W i d)), some (.int .i64 (wsum W i d)), some (.int .i64 ((i + d : Nat) : Int)), none, some (u 13), some (u 14), some (u 15), some (u 16), some (u 17), some (u 18), some (u 19), some (u 20), some (u 21), some (u 22), some (u 23), some (u 24), some (u 25), some (u 26), some (u 27), some (u 28), some (u 29), some (u 30), some (u 31), some (u 32), some (u 33), some (u 34), none, none, none]) (fun (d : Nat) => [none]) (fun (d : Nat) => []) (0) (by kernel_rfl) ?_ (by kernel_rfl) ?_ ?_
  · exact Nat.zero_le _
  · exact subset_nil
  intro u d hd
  refine JC_norm ⟨38, [], [_, _, _, _, _, _, _, _, _, _, _, _, _, _, _, _, _, _, _, _, _, _, _, _, _, _, _, _, _, _, _, _, _, _, _, _, _, _]⟩ [box _ _ [_, _, _]] [_, _] rfl rfl rfl ?_
  refine JC_seq ?_
  refine JC_seq ?_
  refine JC_region ?_
  refine JL_move rfl ?_
  refine JL_move rfl ?_
  refine JL_lss rfl rfl ?_
  refine JL_split (fun h15 => ?_) (fun h15 => ?_)
  · refine JL_done_up 38 [box _ _ [_, _, _]] [_, _] rfl rfl (by simp only [nrmF]; rfl) rfl rfl ?_
    refine JC_true rfl ?_
    refine JC_skip ?_
    refine JE_then ?_
    refine JC_seq ?_
    refine JC_block ?_
    refine JC_seq ?_
    have hsd := sums_in hok (i := i) (k := d) (by omega)
    have hsd1 := sums_in hok (i := i) (k := d + 1) (by omega)
    rw [vsum, wsum] at hsd1
    have hka := hok (i + d) (by omega)
    obtain ⟨x1, x2, x3, x4⟩ := hka
    have hmu := mul_in (A := 1000000) (B := 1000) (x := V.getD (i + d) 0) (by omega) x2 (y := W.getD (i + d) 0) (by omega) x4 (by omega)
    refine JC_drawT mixed 10 [spV 18 [] _, spV 19 [] _, spV 20 [] _, spV 21 [1, 2] _, spV 22 [3] _, spV 23 [] _, spV 24 [] _, spV 25 [5, 6] _, spV 26 [7] _, spV 27 [4, 8] _] ⟨OblS_V (fun vals ex ψ => (by
        refine JL_normQ ⟨38, [(18, _), (19, _), (20, _), (21, _), (22, _), (23, _), (24, _), (25, _), (26, _), (27, _)], _⟩ (_ :: _ :: ψ) rfl rfl ?_
        refine JL_move rfl ?_
        exact JL_nil (JE_stepV rfl ss0))), OblS_V (fun vals ex ψ => (by
        refine JL_normQ ⟨38, [(18, _), (19, _), (20, _), (21, _), (22, _), (23, _), (24, _), (25, _), (26, _), (27, _)], _⟩ (_ :: _ :: ψ) rfl rfl ?_
        refine JL_move rfl ?_
        exact JL_nil (JE_stepV rfl ss0))), OblS_V (fun vals ex ψ => (by
        refine JL_normQ ⟨38, [(18, _), (19, _), (20, _), (21, _), (22, _), (23, _), (24, _), (25, _), (26, _), (27, _)], _⟩ (_ :: _ :: ψ) rfl rfl ?_
        refine JL_move rfl ?_
        exact JL_nil (JE_stepV rfl ss0))), OblS_V (fun vals ex ψ => (by
        refine JL_normQ ⟨38, [(18, _), (19, _), (20, _), (21, _), (22, _), (23, _), (24, _), (25, _), (26, _), (27, _)], _⟩ (_ :: _ :: ψ) rfl rfl ?_
        refine JL_idx (i + d) sl22 rfl rfl rfl (by omega) (by first | exact Reads.view (by repeat (first | with_reducible exact mm0 | refine mmS ?_))) (by first | (rw [u32s_length]; omega) | (rw [i64s_length]; omega)) ?_
        exact JL_nil (JE_stepV rfl ss0))), OblS_V (fun vals ex ψ => (by
        refine JL_normQ ⟨38, [(18, _), (19, _), (20, _), (21, _), (22, _), (23, _), (24, _), (25, _), (26, _), (27, _)], _⟩ (_ :: _ :: ψ) rfl rfl ?_
        refine JL_loadE ty3 rfl (by first | exact Reads.view (by repeat (first | with_reducible exact mm0 | refine mmS ?_))) (i64s_get (by omega)) ?_
        exact JL_nil (JE_stepV rfl ss0))), OblS_V (fun vals ex ψ => (by
        refine JL_normQ ⟨38, [(18, _), (19, _), (20, _), (21, _), (22, _), (23, _), (24, _), (25, _), (26, _), (27, _)], _⟩ (_ :: _ :: ψ) rfl rfl ?_
        refine JL_move rfl ?_
        exact JL_nil (JE_stepV rfl ss0))), OblS_V (fun vals ex ψ => (by
        refine JL_normQ ⟨38, [(18, _), (19, _), (20, _), (21, _), (22, _), (23, _), (24, _), (25, _), (26, _), (27, _)], _⟩ (_ :: _ :: ψ) rfl rfl ?_
        refine JL_move rfl ?_
        exact JL_nil (JE_stepV rfl ss0))), OblS_V (fun vals ex ψ => (by
        refine JL_normQ ⟨38, [(18, _), (19, _), (20, _), (21, _), (22, _), (23, _), (24, _), (25, _), (26, _), (27, _)], _⟩ (_ :: _ :: ψ) rfl rfl ?_
        refine JL_idx (i + d) sl22 rfl rfl rfl (by omega) (by first | exact Reads.view (by repeat (first | with_reducible exact mm0 | refine mmS ?_))) (by first | (rw [u32s_length]; omega) | (rw [i64s_length]; omega)) ?_
        exact JL_nil (JE_stepV rfl ss0))), OblS_V (fun vals ex ψ => (by
        refine JL_normQ ⟨38, [(18, _), (19, _), (20, _), (21, _), (22, _), (23, _), (24, _), (25, _), (26, _), (27, _)], _⟩ (_ :: _ :: ψ) rfl rfl ?_
        refine JL_loadE ty3 rfl (by first | exact Reads.view (by repeat (first | with_reducible exact mm0 | refine mmS ?_))) (i64s_get (by omega)) ?_
        exact JL_nil (JE_stepV rfl ss0))), OblS_V (fun vals ex ψ => (by
        refine JL_normQ ⟨38, [(18, _), (19, _), (20, _), (21, _), (22, _), (23, _), (24, _), (25, _), (26, _), (27, _)], _⟩ (_ :: _ :: ψ) rfl rfl ?_
        refine JL_mul_to rfl rfl (IntWalk.i64_in _ (by omega)) ?_
        exact JL_nil (JE_stepV rfl ss0))), trivial⟩ (by kernel_rfl) (fun vals bs => ?_)
    refine JL_normL [_, _] ⟨38, [(18, _), (19, _), (20, _), (21, _), (22, _), (23, _), (24, _), (25, _), (26, _), (27, _)], _⟩ [box _ _ [_, _, _]] [_, _] rfl rfl rfl rfl ?_
    refine JL_add_to rfl rfl (IntWalk.i64_in _ (by omega)) ?_
    refine JL_assign rfl ?_
    refine JL_done_up 38 [box _ _ [_, _, _]] [_, _] rfl rfl (by simp only [nrmF]; rfl) rfl rfl ?_
    refine JC_region ?_
    refine JL_move rfl ?_
    refine JL_move rfl ?_
    refine JL_move rfl ?_
    refine JL_idx (i + d) sl22 rfl rfl rfl (by omega) (by first | exact Reads.view (by repeat (first | with_reducible exact mm0 | refine mmS ?_))) (by first | (rw [u32s_length]; omega) | (rw [i64s_length]; omega)) ?_
    refine JL_loadE ty3 rfl (by first | exact Reads.view (by repeat (first | with_reducible exact mm0 | refine mmS ?_))) (i64s_get (by omega)) ?_
    refine JL_add_to rfl rfl (IntWalk.i64_in _ (by omega)) ?_
    refine JL_assign rfl ?_
    refine JL_nil_up 38 [box _ _ [_, _, _]] [_, _] rfl rfl (by simp only [nrmF]; rfl) rfl rfl ?_
    refine JE_block_normal ?_
    refine JE_then ?_
    refine JC_region ?_
    refine JL_move rfl ?_
    refine JL_add_to rfl rfl (IntWalk.i64_in _ (by omega)) ?_
    refine JL_assign rfl ?_
    refine JL_nil_up 38 [box _ _ [_, _, _]] [_, _] rfl rfl (by simp only [nrmF]; rfl) rfl rfl ?_
    refine JE_nextS (d + 1) (by kernel_rfl) ?_ ?_ (by kernel_rfl) ?_
    · exact (by omega : d + 1 ≤ j - i)
    · first | omega | (dsimp only; omega)
    · exact subset_app subset_nil ss0
  · refine JL_done_up 38 [box _ _ [_, _, _]] [_, _] rfl rfl (by simp only [nrmF]; rfl) rfl rfl ?_
    refine JC_false rfl ?_
    refine JC_exit ?_
    refine JE_then_exit ?_
    refine JE_nextS_exit ?_
    refine JE_block_exit ?_
    refine JE_then ?_
    refine JC_seq ?_
    have hdm : j - i = d := by omega
    have hs := sums_in hok (i := i) (k := d) (by omega)
    have hmq : ofq (vsum V W i d) (wsum W i d) = meanq V W i j := by rw [meanq, hdm]
    refine JC_region ?_
    refine JL_move rfl ?_
    refine JL_move rfl ?_
    refine JL_callF' Asks.nil (rofi_con (vsum V W i d) (wsum W i d) (by omega) (by omega)) rfl ca24 ⟨rfl, rfl, rfl⟩ ?_
    rintro _ _ ⟨ad37, cp37, be37, ce37, rfl, rfl⟩
    refine JL_store (vs := [_, _, _]) 0 ty30 rfl rfl rfl (AllOne.cons rfl (AllOne.cons rfl (AllOne.cons rfl AllOne.nil))) rfl (Nat.le_of_ble_eq_true rfl) ?_
    refine JL_done_up 38 [box _ _ [_, _, _]] [_, _, _, _] rfl rfl (by simp only [nrmF]; rfl) rfl rfl ?_
    refine JC_ret ?_
    refine JE_ret (vs := [_]) [vCells ad37 (u32s (fnum (some (ofq (vsum V W i d) (wsum W i d))))), vCells be37 (u32s (fden (some (ofq (vsum V W i d) (wsum W i d)))))] Tryz.results54 ⟨RV.cell (vs := [_, _, _]) 0 ty30 rfl rfl ⟨rfl, rfl, rfl, trivial⟩, rfl⟩ ?_ ?_
    · rw [← hmq]; exact ⟨ad37, cp37, be37, ce37, rfl, rfl⟩
    · exact (all_cons (by repeat (first | with_reducible exact mm0 | refine mmS ?_)) (all_cons (by repeat (first | with_reducible exact mm0 | refine mmS ?_)) all_nil))

end Go.Fw.K
