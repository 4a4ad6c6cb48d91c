/- Walks through functions of the given program: each meets its contract. (Printed by a program of this repo.) -/
import Derived.Test.YtgikgmhifjjekaaDoorF4
import Derived.Test.YtgikgmhifjjekaaDoorFwL
import Derived.Test.YtgikgmhifjjekaaDoorProg
namespace Go.Fw.L1
open Go Go.RowKit Go.Proofs Go.Nat9 Go.Fw
attribute [local irreducible] JC JL JE
theorem ca20 : callable Tryd.prog 20 = true := by kernel_rfl
theorem fo24_0 : fOf Tryd.prog 24 0 = some 0 := by kernel_rfl
theorem fo26_1 : fOf Tryd.prog 26 1 = some 1 := by kernel_rfl
theorem fo26_2 : fOf Tryd.prog 26 2 = some 2 := by kernel_rfl
theorem fo28_0 : fOf Tryd.prog 28 0 = some 0 := by kernel_rfl
theorem fo28_1 : fOf Tryd.prog 28 1 = some 3 := by kernel_rfl
theorem sl22 : slOf Tryd.prog 22 = some (82, 1, 4, [.int .u32 0]) := by kernel_rfl
theorem sl54 : slOf Tryd.prog 54 = some (28, 6, 112, [.bool false, .slice none 0 0, .slice none 0 0, .bool false, .slice none 0 0, .slice none 0 0]) := by kernel_rfl
theorem st28 : stOf Tryd.prog 28 = some ([(0, 3), (3, 3)], [.bool false, .slice none 0 0, .slice none 0 0, .bool false, .slice none 0 0, .slice none 0 0]) := by kernel_rfl
theorem ty22 : tyOf Tryd.prog 22 = some (false, 1) := by kernel_rfl
theorem ty28 : tyOf Tryd.prog 28 = some (true, 6) := by kernel_rfl
theorem z28 : zeroOf Tryd.prog 28 = some [.bool false, .slice none 0 0, .slice none 0 0, .bool false, .slice none 0 0, .slice none 0 0] := by kernel_rfl
end Go.Fw.L1
namespace Go.Fw.K
open Go Go.RowKit Go.Proofs Go.Nat9 Go.Fw Go.Fw.L1
attribute [local irreducible] JC JL JE

theorem lspan_con (n m : Int) (hn : -9223372036854775808 ≤ n ∧ n ≤ 9223372036854775807) (hm : -9223372036854775808 ≤ m ∧ m ≤ 9223372036854775807) :
    ConF Tryd.prog 25 [.int .i64 n, .int .i64 m] []
      (SO (some (ofq n 1)) (some (ofq m 1))) := by
  refine ConF_of Tryd.func25 rfl 10 _ rfl rfl ?_
  intro w0
  refine JC_norm ⟨10, [], [_, _, _, _, _, _, _, _, _, _]⟩ [] [] rfl rfl rfl ?_
  refine JC_seq ?_
  refine JC_region ?_
  refine JL_alloc z28 (fun b4 => ?_)
  refine JL_done_up 10 [box _ _ [_, _, _, _, _, _]] [] rfl rfl (by simp only [upd_pend, upd_base, flatP, updV_zero, updV_succ]; rfl) rfl rfl ?_
  refine JC_seq ?_
  refine JC_region ?_
  refine JL_move rfl ?_
  refine JL_callF' Asks.nil (fofi_con n 1 (by omega) (by omega)) rfl ca20 ⟨rfl, rfl, rfl⟩ ?_
  rintro _ _ ⟨ad6, cp6, be6, ce6, rfl, rfl⟩
  refine JL_move rfl ?_
  refine JL_callF' Asks.nil (fofi_con m 1 (by omega) (by omega)) rfl ca20 ⟨rfl, rfl, rfl⟩ ?_
  rintro _ _ ⟨ad8, cp8, be8, ce8, rfl, rfl⟩
  refine JL_build (cs := [_, _, _, _, _, _]) [(0, [_, _, _]), (1, [_, _, _])] st28 ⟨⟨rfl, _, rfl, rfl⟩, ⟨rfl, _, rfl, rfl⟩, rfl⟩ rfl ?_
  refine JL_store (vs := [_, _, _, _, _, _]) 0 ty28 rfl rfl rfl (AllOne.cons rfl (AllOne.cons rfl (AllOne.cons rfl (AllOne.cons rfl (AllOne.cons rfl (AllOne.cons rfl AllOne.nil)))))) rfl (Nat.le_of_ble_eq_true rfl) ?_
  refine JL_done_up 10 [box _ _ [_, _, _, _, _, _]] [_, _, _, _] rfl rfl (by simp only [upd_pend, upd_base, flatP, updV_zero, updV_succ]; rfl) rfl rfl ?_
  refine JC_ret ?_
  refine JE_ret (vs := [_]) [vCells ad6 (u32s (fnum (some (ofq n 1)))), vCells be6 (u32s (fden (some (ofq n 1)))), vCells ad8 (u32s (fnum (some (ofq m 1)))), vCells be8 (u32s (fden (some (ofq m 1))))] Tryd.results25 ⟨RV.cell (vs := [_, _, _, _, _, _]) 0 ty28 rfl rfl ⟨rfl, rfl, rfl, rfl, rfl, rfl, trivial⟩, rfl⟩ ?_ ?_
  · exact ⟨ad6, cp6, be6, ce6, ad8, cp8, be8, ce8, rfl, rfl⟩
  · exact (all_cons (by repeat (first | with_reducible exact mm0 | refine mmS ?_)) (all_cons (by repeat (first | with_reducible exact mm0 | refine mmS ?_)) (all_cons (by repeat (first | with_reducible exact mm0 | refine mmS ?_)) (all_cons (by repeat (first | with_reducible exact mm0 | refine mmS ?_)) all_nil))))

theorem lfew_con {ad : Option Addr} {n c : Nat} {l : List SpV} (hl : l.length = n) (hb : n ≤ 1000000) :
    ConF Tryd.prog 9 [.slice ad n c] [vCells ad (spCells l)]
      (fun v φo => ∃ b, v = .bool b ∧ φo = [] ∧ (b = true → ∀ i, i < l.length → (l.getD i SpV.nil).ok)) := by
  subst hl
  refine ConF_of Tryd.func9 rfl 52 _ rfl rfl ?_
  intro w0
  refine JC_norm ⟨52, [], [_, _, _, _, _, _, _, _, _, _, _, _, _, _, _, _, _, _, _, _, _, _, _, _, _, _, _, _, _, _, _, _, _, _, _, _, _, _, _, _, _, _, _, _, _, _, _, _, _, _, _, _]⟩ [] [_] rfl rfl rfl ?_
  refine JC_seq ?_
  refine JC_region ?_
  refine JL_assign rfl ?_
  refine JL_done_up 52 [] [_] rfl rfl (by simp only [upd_pend, upd_base, flatP, updV_zero, updV_succ]; rfl) rfl rfl ?_
  refine JC_seq ?_
  refine JC_seq ?_
  refine JC_region ?_
  refine JL_assign rfl ?_
  refine JL_done_up 52 [] [_] rfl rfl (by simp only [upd_pend, upd_base, flatP, updV_zero, updV_succ]; rfl) rfl rfl ?_
  refine JC_block ?_
  refine JC_loopS ((Nat)) (fun (k : Nat) => k ≤ l.length ∧ ∀ i, i < k → (l.getD i SpV.nil).ok) (fun (k : Nat) => l.length - k) (fun u (k : Nat) => [none, none, some (u 2), some (.int .i64 (k : Nat)), some (u 4), some (u 5), some (u 6), some (u 7), some (u 8), some (u 9), some (u 10), some (u 11), some (u 12), some (u 13), some (u 14), some (u 15), some (u 16), some (u 17), some (u 18), some (u 19), some (u 20), some (u 21), some (u 22), some (u 23), some (u 24), some (u 25), some (u 26), some (u 27), some (u 28), some (u 29), some (u 30), some (u 31), some (u 32), some (u 33), some (u 34), some (u 35), some (u 36), some (u 37), some (u 38), some (u 39), some (u 40), some (u 41), some (u 42), some (u 43), some (u 44), some (u 45), some (u 46), some (u 47), some (u 48), some (u 49), some (u 50), some (u 51)]) (fun (k : Nat) => []) (fun (k : Nat) => []) (0) (by kernel_rfl) ?_ (by kernel_rfl) ?_ ?_
  · exact ⟨Nat.zero_le _, fun i hi => absurd hi (Nat.not_lt_zero _)⟩
  · exact subset_nil
  intro u k hC
  obtain ⟨hk, hok⟩ := hC
  refine JC_norm ⟨52, [], [_, _, _, _, _, _, _, _, _, _, _, _, _, _, _, _, _, _, _, _, _, _, _, _, _, _, _, _, _, _, _, _, _, _, _, _, _, _, _, _, _, _, _, _, _, _, _, _, _, _, _, _]⟩ [] [_] rfl rfl rfl ?_
  refine JC_seq ?_
  refine JC_seq ?_
  refine JC_region ?_
  refine JL_move rfl ?_
  refine JL_move rfl ?_
  refine JL_len sl54 rfl ?_
  refine JL_lss rfl rfl ?_
  refine JL_split (fun h7 => ?_) (fun h7 => ?_)
  · have hk1 : k < l.length := by omega
    refine JL_done_up 52 [] [_] rfl rfl (by simp only [upd_pend, upd_base, flatP, updV_zero, updV_succ]; rfl) rfl rfl ?_
    refine JC_true rfl ?_
    refine JC_skip ?_
    refine JE_then ?_
    refine JC_seq ?_
    refine JC_block ?_
    refine JC_seq ?_
    refine JC_region ?_
    refine JL_move rfl ?_
    refine JL_move rfl ?_
    refine JL_indexAddr k sl54 rfl rfl rfl (by omega) (by first | exact Reads.view (by repeat (first | with_reducible exact mm0 | refine mmS ?_))) (by rw [spCells_len]; omega) ?_
    refine JL_fieldAddrE fo28_0 rfl (by first | exact Reads.view (by repeat (first | with_reducible exact mm0 | refine mmS ?_))) (by rw [spCells_len]; omega) ?_
    refine JL_fieldAddrE fo26_1 rfl (by first | exact Reads.view (by repeat (first | with_reducible exact mm0 | refine mmS ?_))) (by rw [spCells_len]; omega) ?_
    refine JL_fieldAddrE fo24_0 rfl (by first | exact Reads.view (by repeat (first | with_reducible exact mm0 | refine mmS ?_))) (by rw [spCells_len]; omega) ?_
    refine JL_loadE ty22 rfl (by first | exact Reads.view (by repeat (first | with_reducible exact mm0 | refine mmS ?_))) (spGet1 hk1) ?_
    refine JL_len sl22 rfl ?_
    refine JL_gtr rfl rfl ?_
    refine JL_split (fun h18 => ?_) (fun h18 => ?_)
    · refine JL_move rfl ?_
      refine JL_guard_no rfl rfl ?_
      refine JL_guard_no rfl rfl ?_
      refine JL_guard_no rfl rfl ?_
      refine JL_guard_no rfl rfl ?_
      refine JL_guard_no rfl rfl ?_
      refine JL_guard_no rfl rfl ?_
      refine JL_guard_no rfl rfl ?_
      refine JL_guard_no rfl rfl ?_
      refine JL_guard_no rfl rfl ?_
      refine JL_pick_t rfl rfl ?_
      refine JL_move rfl ?_
      refine JL_guard_no rfl rfl ?_
      refine JL_guard_no rfl rfl ?_
      refine JL_guard_no rfl rfl ?_
      refine JL_guard_no rfl rfl ?_
      refine JL_guard_no rfl rfl ?_
      refine JL_guard_no rfl rfl ?_
      refine JL_guard_no rfl rfl ?_
      refine JL_guard_no rfl rfl ?_
      refine JL_guard_no rfl rfl ?_
      refine JL_pick_t rfl rfl ?_
      refine JL_move rfl ?_
      refine JL_guard_no rfl rfl ?_
      refine JL_guard_no rfl rfl ?_
      refine JL_guard_no rfl rfl ?_
      refine JL_guard_no rfl rfl ?_
      refine JL_guard_no rfl rfl ?_
      refine JL_guard_no rfl rfl ?_
      refine JL_guard_no rfl rfl ?_
      refine JL_guard_no rfl rfl ?_
      refine JL_guard_no rfl rfl ?_
      refine JL_pick_t rfl rfl ?_
      refine JL_done_up 52 [] [_] rfl rfl (by simp only [upd_pend, upd_base, flatP, updV_zero, updV_succ]; rfl) rfl rfl ?_
      refine JC_true rfl ?_
      refine JC_seq ?_
      refine JC_region ?_
      refine JL_assign rfl ?_
      refine JL_done_up 52 [] [_] rfl rfl (by simp only [upd_pend, upd_base, flatP, updV_zero, updV_succ]; rfl) rfl rfl ?_
      refine JC_ret ?_
      refine JE_block_ret ?_
      refine JE_then_ret ?_
      refine JE_nextS_ret ?_
      refine JE_block_ret ?_
      refine JE_then_ret ?_
      refine JE_ret (vs := [_]) [] Tryd.results9 ⟨rfl, rfl⟩ ?_ ?_
      · exact ⟨false, rfl, rfl, fun h => absurd h (by decide)⟩
      · exact all_nil
    · refine JL_move rfl ?_
      refine JL_guard_yes rfl rfl ?_
      refine JL_move rfl ?_
      refine JL_guard_yes rfl rfl ?_
      refine JL_move rfl ?_
      refine JL_guard_yes rfl rfl ?_
      refine JL_indexAddr k sl54 rfl rfl rfl (by omega) (by first | exact Reads.view (by repeat (first | with_reducible exact mm0 | refine mmS ?_))) (by rw [spCells_len]; omega) ?_
      refine JL_guard_yes rfl rfl ?_
      refine JL_fieldAddrE fo28_0 rfl (by first | exact Reads.view (by repeat (first | with_reducible exact mm0 | refine mmS ?_))) (by rw [spCells_len]; omega) ?_
      refine JL_guard_yes rfl rfl ?_
      refine JL_fieldAddrE fo26_2 rfl (by first | exact Reads.view (by repeat (first | with_reducible exact mm0 | refine mmS ?_))) (by rw [spCells_len]; omega) ?_
      refine JL_guard_yes rfl rfl ?_
      refine JL_fieldAddrE fo24_0 rfl (by first | exact Reads.view (by repeat (first | with_reducible exact mm0 | refine mmS ?_))) (by rw [spCells_len]; omega) ?_
      refine JL_guard_yes rfl rfl ?_
      refine JL_loadE ty22 rfl (by first | exact Reads.view (by repeat (first | with_reducible exact mm0 | refine mmS ?_))) (spGet2 hk1) ?_
      refine JL_guard_yes rfl rfl ?_
      refine JL_len sl22 rfl ?_
      refine JL_guard_yes rfl rfl ?_
      refine JL_gtr rfl rfl ?_
      refine JL_split (fun h28 => ?_) (fun h28 => ?_)
      · refine JL_pick_f rfl rfl ?_
        refine JL_move rfl ?_
        refine JL_guard_no rfl rfl ?_
        refine JL_guard_no rfl rfl ?_
        refine JL_guard_no rfl rfl ?_
        refine JL_guard_no rfl rfl ?_
        refine JL_guard_no rfl rfl ?_
        refine JL_guard_no rfl rfl ?_
        refine JL_guard_no rfl rfl ?_
        refine JL_guard_no rfl rfl ?_
        refine JL_guard_no rfl rfl ?_
        refine JL_pick_t rfl rfl ?_
        refine JL_move rfl ?_
        refine JL_guard_no rfl rfl ?_
        refine JL_guard_no rfl rfl ?_
        refine JL_guard_no rfl rfl ?_
        refine JL_guard_no rfl rfl ?_
        refine JL_guard_no rfl rfl ?_
        refine JL_guard_no rfl rfl ?_
        refine JL_guard_no rfl rfl ?_
        refine JL_guard_no rfl rfl ?_
        refine JL_guard_no rfl rfl ?_
        refine JL_pick_t rfl rfl ?_
        refine JL_done_up 52 [] [_] rfl rfl (by simp only [upd_pend, upd_base, flatP, updV_zero, updV_succ]; rfl) rfl rfl ?_
        refine JC_true rfl ?_
        refine JC_seq ?_
        refine JC_region ?_
        refine JL_assign rfl ?_
        refine JL_done_up 52 [] [_] rfl rfl (by simp only [upd_pend, upd_base, flatP, updV_zero, updV_succ]; rfl) rfl rfl ?_
        refine JC_ret ?_
        refine JE_block_ret ?_
        refine JE_then_ret ?_
        refine JE_nextS_ret ?_
        refine JE_block_ret ?_
        refine JE_then_ret ?_
        refine JE_ret (vs := [_]) [] Tryd.results9 ⟨rfl, rfl⟩ ?_ ?_
        · exact ⟨false, rfl, rfl, fun h => absurd h (by decide)⟩
        · exact all_nil
      · refine JL_pick_f rfl rfl ?_
        refine JL_move rfl ?_
        refine JL_guard_yes rfl rfl ?_
        refine JL_move rfl ?_
        refine JL_guard_yes rfl rfl ?_
        refine JL_move rfl ?_
        refine JL_guard_yes rfl rfl ?_
        refine JL_indexAddr k sl54 rfl rfl rfl (by omega) (by first | exact Reads.view (by repeat (first | with_reducible exact mm0 | refine mmS ?_))) (by rw [spCells_len]; omega) ?_
        refine JL_guard_yes rfl rfl ?_
        refine JL_fieldAddrE fo28_1 rfl (by first | exact Reads.view (by repeat (first | with_reducible exact mm0 | refine mmS ?_))) (by rw [spCells_len]; omega) ?_
        refine JL_guard_yes rfl rfl ?_
        refine JL_fieldAddrE fo26_1 rfl (by first | exact Reads.view (by repeat (first | with_reducible exact mm0 | refine mmS ?_))) (by rw [spCells_len]; omega) ?_
        refine JL_guard_yes rfl rfl ?_
        refine JL_fieldAddrE fo24_0 rfl (by first | exact Reads.view (by repeat (first | with_reducible exact mm0 | refine mmS ?_))) (by rw [spCells_len]; omega) ?_
        refine JL_guard_yes rfl rfl ?_
        refine JL_loadE ty22 rfl (by first | exact Reads.view (by repeat (first | with_reducible exact mm0 | refine mmS ?_))) (spGet3 hk1) ?_
        refine JL_guard_yes rfl rfl ?_
        refine JL_len sl22 rfl ?_
        refine JL_guard_yes rfl rfl ?_
        refine JL_gtr rfl rfl ?_
        refine JL_split (fun h39 => ?_) (fun h39 => ?_)
        · refine JL_pick_f rfl rfl ?_
          refine JL_move rfl ?_
          refine JL_guard_no rfl rfl ?_
          refine JL_guard_no rfl rfl ?_
          refine JL_guard_no rfl rfl ?_
          refine JL_guard_no rfl rfl ?_
          refine JL_guard_no rfl rfl ?_
          refine JL_guard_no rfl rfl ?_
          refine JL_guard_no rfl rfl ?_
          refine JL_guard_no rfl rfl ?_
          refine JL_guard_no rfl rfl ?_
          refine JL_pick_t rfl rfl ?_
          refine JL_done_up 52 [] [_] rfl rfl (by simp only [upd_pend, upd_base, flatP, updV_zero, updV_succ]; rfl) rfl rfl ?_
          refine JC_true rfl ?_
          refine JC_seq ?_
          refine JC_region ?_
          refine JL_assign rfl ?_
          refine JL_done_up 52 [] [_] rfl rfl (by simp only [upd_pend, upd_base, flatP, updV_zero, updV_succ]; rfl) rfl rfl ?_
          refine JC_ret ?_
          refine JE_block_ret ?_
          refine JE_then_ret ?_
          refine JE_nextS_ret ?_
          refine JE_block_ret ?_
          refine JE_then_ret ?_
          refine JE_ret (vs := [_]) [] Tryd.results9 ⟨rfl, rfl⟩ ?_ ?_
          · exact ⟨false, rfl, rfl, fun h => absurd h (by decide)⟩
          · exact all_nil
        · refine JL_pick_f rfl rfl ?_
          refine JL_move rfl ?_
          refine JL_guard_yes rfl rfl ?_
          refine JL_move rfl ?_
          refine JL_guard_yes rfl rfl ?_
          refine JL_move rfl ?_
          refine JL_guard_yes rfl rfl ?_
          refine JL_indexAddr k sl54 rfl rfl rfl (by omega) (by first | exact Reads.view (by repeat (first | with_reducible exact mm0 | refine mmS ?_))) (by rw [spCells_len]; omega) ?_
          refine JL_guard_yes rfl rfl ?_
          refine JL_fieldAddrE fo28_1 rfl (by first | exact Reads.view (by repeat (first | with_reducible exact mm0 | refine mmS ?_))) (by rw [spCells_len]; omega) ?_
          refine JL_guard_yes rfl rfl ?_
          refine JL_fieldAddrE fo26_2 rfl (by first | exact Reads.view (by repeat (first | with_reducible exact mm0 | refine mmS ?_))) (by rw [spCells_len]; omega) ?_
          refine JL_guard_yes rfl rfl ?_
          refine JL_fieldAddrE fo24_0 rfl (by first | exact Reads.view (by repeat (first | with_reducible exact mm0 | refine mmS ?_))) (by rw [spCells_len]; omega) ?_
          refine JL_guard_yes rfl rfl ?_
          refine JL_loadE ty22 rfl (by first | exact Reads.view (by repeat (first | with_reducible exact mm0 | refine mmS ?_))) (spGet4 hk1) ?_
          refine JL_guard_yes rfl rfl ?_
          refine JL_len sl22 rfl ?_
          refine JL_guard_yes rfl rfl ?_
          refine JL_gtr rfl rfl ?_
          refine JL_split (fun h50 => ?_) (fun h50 => ?_)
          · refine JL_pick_f rfl rfl ?_
            refine JL_done_up 52 [] [_] rfl rfl (by simp only [upd_pend, upd_base, flatP, updV_zero, updV_succ]; rfl) rfl rfl ?_
            refine JC_true rfl ?_
            refine JC_seq ?_
            refine JC_region ?_
            refine JL_assign rfl ?_
            refine JL_done_up 52 [] [_] rfl rfl (by simp only [upd_pend, upd_base, flatP, updV_zero, updV_succ]; rfl) rfl rfl ?_
            refine JC_ret ?_
            refine JE_block_ret ?_
            refine JE_then_ret ?_
            refine JE_nextS_ret ?_
            refine JE_block_ret ?_
            refine JE_then_ret ?_
            refine JE_ret (vs := [_]) [] Tryd.results9 ⟨rfl, rfl⟩ ?_ ?_
            · exact ⟨false, rfl, rfl, fun h => absurd h (by decide)⟩
            · exact all_nil
          · refine JL_pick_f rfl rfl ?_
            refine JL_done_up 52 [] [_] rfl rfl (by simp only [upd_pend, upd_base, flatP, updV_zero, updV_succ]; rfl) rfl rfl ?_
            refine JC_false rfl ?_
            refine JC_skip ?_
            refine JE_block_normal ?_
            refine JE_then ?_
            refine JC_region ?_
            refine JL_move rfl ?_
            refine JL_add_to rfl rfl (IntWalk.i64_in _ (by omega)) ?_
            refine JL_assign rfl ?_
            refine JL_nil_up 52 [] [_] rfl rfl (by simp only [upd_pend, upd_base, flatP, updV_zero, updV_succ]; rfl) rfl rfl ?_
            refine JE_nextS (k + 1) (by kernel_rfl) ?_ ?_ (by kernel_rfl) ?_
            · exact ⟨by omega, fun i hi => by
              by_cases h : i = k
              · subst h; exact ⟨by omega, by omega, by omega, by omega⟩
              · exact hok i (by omega)⟩
            · first | omega | (dsimp only; omega)
            · exact subset_app subset_nil ss0
  · refine JL_done_up 52 [] [_] rfl rfl (by simp only [upd_pend, upd_base, flatP, updV_zero, updV_succ]; rfl) rfl rfl ?_
    refine JC_false rfl ?_
    refine JC_exit ?_
    refine JE_then_exit ?_
    refine JE_nextS_exit ?_
    refine JE_block_exit ?_
    refine JE_then ?_
    refine JC_seq ?_
    refine JC_region ?_
    refine JL_assign rfl ?_
    refine JL_done_up 52 [] [_] rfl rfl (by simp only [upd_pend, upd_base, flatP, updV_zero, updV_succ]; rfl) rfl rfl ?_
    refine JC_ret ?_
    refine JE_ret (vs := [_]) [] Tryd.results9 ⟨rfl, rfl⟩ ?_ ?_
    · exact ⟨true, rfl, rfl, fun _ i hi => hok i (by omega)⟩
    · exact all_nil

end Go.Fw.K
