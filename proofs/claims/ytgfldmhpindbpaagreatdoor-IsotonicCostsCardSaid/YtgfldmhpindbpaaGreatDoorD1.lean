/- Walks through functions of the given program: each meets its contract. (Printed by a program of this repo.) -/
import Derived.Test.YtgfldmhpindbpaaGreatDoorIso
import Derived.Test.YtgfldmhpindbpaaGreatDoorC2
import Derived.Test.YtgfldmhpindbpaaGreatDoorC3
import Derived.Test.YtgfldmhpindbpaaGreatDoorProg
namespace Go.Fw.D1
open Go Go.RowKit Go.Proofs Go.Nat9 Go.Fw
attribute [local irreducible] JC JL JE
theorem ca13 : callable Tryz.prog 13 = true := by kernel_rfl
theorem ca18 : callable Tryz.prog 18 = true := by kernel_rfl
theorem ca19 : callable Tryz.prog 19 = true := by kernel_rfl
theorem ca20 : callable Tryz.prog 20 = true := by kernel_rfl
theorem ca21 : callable Tryz.prog 21 = true := by kernel_rfl
theorem ca22 : callable Tryz.prog 22 = true := by kernel_rfl
theorem ca29 : callable Tryz.prog 29 = true := by kernel_rfl
theorem fo28_0 : fOf Tryz.prog 28 0 = some 0 := by kernel_rfl
theorem fo30_1 : fOf Tryz.prog 30 1 = some 1 := by kernel_rfl
theorem fo30_2 : fOf Tryz.prog 30 2 = some 2 := by kernel_rfl
theorem mixed : Tryz.prog.follows .mixedOrders = true := by kernel_rfl
theorem sl22 : slOf Tryz.prog 22 = some (3, 1, 8, [.int .i64 0]) := by kernel_rfl
theorem sl23 : slOf Tryz.prog 23 = some (30, 3, 56, [.bool false, .slice none 0 0, .slice none 0 0]) := by kernel_rfl
theorem sl26 : slOf Tryz.prog 26 = some (64, 1, 4, [.int .u32 0]) := by kernel_rfl
theorem st30 : stOf Tryz.prog 30 = some ([(0, 1), (1, 1), (2, 1)], [.bool false, .slice none 0 0, .slice none 0 0]) := by kernel_rfl
theorem ty26 : tyOf Tryz.prog 26 = some (false, 1) := by kernel_rfl
theorem ty3 : tyOf Tryz.prog 3 = some (false, 1) := by kernel_rfl
theorem ty30 : tyOf Tryz.prog 30 = some (true, 3) := by kernel_rfl
theorem z30 : zeroOf Tryz.prog 30 = some [.bool false, .slice none 0 0, .slice none 0 0] := by kernel_rfl
end Go.Fw.D1
namespace Go.Fw.K
open Go Go.RowKit Go.Proofs Go.Nat9 Go.Fw Go.Fw.D1
attribute [local irreducible] JC JL JE

theorem few40_con {adv adw ad3 : Option Addr} {nv cv nw cw c3 : Nat} {l : List Fi} (hn3 : l.length ≤ 9223372036854775807) :
    ConF Tryz.prog 5 [.slice adv nv cv, .slice adw nw cw, .slice ad3 l.length c3] [vCells ad3 (rcells l)]
      (fun v φo => ∃ b, v = .bool b ∧ φo = [] ∧ (b = true → nv ≤ 30 ∧ nw ≤ 30 ∧ l.length ≤ 30 ∧ ∀ i, i < l.length → (l.getD i dI).n ≤ 3 ∧ (l.getD i dI).m ≤ 3)) := by
  refine ConF_of Tryz.func5 rfl 45 _ rfl rfl ?_
  intro w0
  refine JC_norm ⟨45, [], [_, _, _, _, _, _, _, _, _, _, _, _, _, _, _, _, _, _, _, _, _, _, _, _, _, _, _, _, _, _, _, _, _, _, _, _, _, _, _, _, _, _, _, _, _]⟩ [] [_] rfl rfl rfl ?_
  refine JC_seq ?_
  refine JC_region ?_
  refine JL_assign rfl ?_
  refine JL_done_up 45 [] [_] rfl rfl (by simp only [nrmF]; rfl) rfl rfl ?_
  refine JC_seq ?_
  refine JC_seq ?_
  refine JC_region ?_
  refine JL_assign rfl ?_
  refine JL_done_up 45 [] [_] rfl rfl (by simp only [nrmF]; rfl) rfl rfl ?_
  refine JC_block ?_
  refine JC_loopS ((Nat)) (fun (k : Nat) => k ≤ l.length ∧ ∀ i, i < k → (l.getD i dI).n ≤ 3 ∧ (l.getD i dI).m ≤ 3) (fun (k : Nat) => l.length - k) (fun u (k : Nat) => [none, none, none, none, none, none, some (u 6), some (.int .i64 (k : Nat)), some (u 8), some (u 9), some (u 10), some (u 11), some (u 12), some (u 13), some (u 14), some (u 15), some (u 16), some (u 17), some (u 18), some (u 19), some (u 20), some (u 21), some (u 22), some (u 23), some (u 24), some (u 25), some (u 26), some (u 27), some (u 28), some (u 29), some (u 30), some (u 31), none, none, none, none, none, none, none, none, none, none, none, none, none]) (fun (k : Nat) => []) (fun (k : Nat) => []) (0) (by kernel_rfl) ?_ (by kernel_rfl) ?_ ?_
  · exact ⟨Nat.zero_le _, fun i hi => absurd hi (Nat.not_lt_zero _)⟩
  · exact subset_nil
  intro u k hC
  obtain ⟨hk, hok⟩ := hC
  refine JC_norm ⟨45, [], [_, _, _, _, _, _, _, _, _, _, _, _, _, _, _, _, _, _, _, _, _, _, _, _, _, _, _, _, _, _, _, _, _, _, _, _, _, _, _, _, _, _, _, _, _]⟩ [] [_] rfl rfl rfl ?_
  refine JC_seq ?_
  refine JC_seq ?_
  refine JC_region ?_
  refine JL_move rfl ?_
  refine JL_move rfl ?_
  refine JL_len sl23 rfl ?_
  refine JL_lss rfl rfl ?_
  refine JL_split (fun h11 => ?_) (fun h11 => ?_)
  · refine JL_done_up 45 [] [_] rfl rfl (by simp only [nrmF]; rfl) rfl rfl ?_
    refine JC_true rfl ?_
    refine JC_skip ?_
    refine JE_then ?_
    refine JC_seq ?_
    refine JC_block ?_
    refine JC_seq ?_
    refine JC_region ?_
    refine JL_move rfl ?_
    refine JL_move rfl ?_
    refine JL_indexAddr k sl23 rfl rfl rfl (by omega) (by first | exact Reads.view (by repeat (first | with_reducible exact mm0 | refine mmS ?_))) (by rw [rcells_length]; omega) ?_
    refine JL_fieldAddrE fo30_1 rfl (by first | exact Reads.view (by repeat (first | with_reducible exact mm0 | refine mmS ?_))) (by rw [rcells_length]; omega) ?_
    refine JL_fieldAddrE fo28_0 rfl (by first | exact Reads.view (by repeat (first | with_reducible exact mm0 | refine mmS ?_))) (by rw [rcells_length]; omega) ?_
    refine JL_loadE ty26 rfl (by first | exact Reads.view (by repeat (first | with_reducible exact mm0 | refine mmS ?_))) (rcells_getA (m := 1) (by omega) _ rfl) ?_
    refine JL_len sl26 rfl ?_
    refine JL_gtr rfl rfl ?_
    refine JL_split (fun h21 => ?_) (fun h21 => ?_)
    · refine JL_move rfl ?_
      refine JL_guard_no rfl rfl ?_
      refine JL_guard_no rfl rfl ?_
      refine JL_guard_no rfl rfl ?_
      refine JL_guard_no rfl rfl ?_
      refine JL_guard_no rfl rfl ?_
      refine JL_guard_no rfl rfl ?_
      refine JL_guard_no rfl rfl ?_
      refine JL_guard_no rfl rfl ?_
      refine JL_pick_t rfl rfl ?_
      refine JL_done_up 45 [] [_] rfl rfl (by simp only [nrmF]; rfl) rfl rfl ?_
      refine JC_true rfl ?_
      refine JC_seq ?_
      refine JC_region ?_
      refine JL_assign rfl ?_
      refine JL_done_up 45 [] [_] rfl rfl (by simp only [nrmF]; rfl) rfl rfl ?_
      refine JC_ret ?_
      refine JE_block_ret ?_
      refine JE_then_ret ?_
      refine JE_nextS_ret ?_
      refine JE_block_ret ?_
      refine JE_then_ret ?_
      refine JE_ret (vs := [_]) [] Tryz.results5 ⟨rfl, rfl⟩ ?_ ?_
      · exact ⟨false, rfl, rfl, fun h => absurd h (by decide)⟩
      · exact all_nil
    · refine JL_move rfl ?_
      refine JL_guard_yes rfl rfl ?_
      refine JL_move rfl ?_
      refine JL_guard_yes rfl rfl ?_
      refine JL_move rfl ?_
      refine JL_guard_yes rfl rfl ?_
      refine JL_indexAddr k sl23 rfl rfl rfl (by omega) (by first | exact Reads.view (by repeat (first | with_reducible exact mm0 | refine mmS ?_))) (by rw [rcells_length]; omega) ?_
      refine JL_guard_yes rfl rfl ?_
      refine JL_fieldAddrE fo30_2 rfl (by first | exact Reads.view (by repeat (first | with_reducible exact mm0 | refine mmS ?_))) (by rw [rcells_length]; omega) ?_
      refine JL_guard_yes rfl rfl ?_
      refine JL_fieldAddrE fo28_0 rfl (by first | exact Reads.view (by repeat (first | with_reducible exact mm0 | refine mmS ?_))) (by rw [rcells_length]; omega) ?_
      refine JL_guard_yes rfl rfl ?_
      refine JL_loadE ty26 rfl (by first | exact Reads.view (by repeat (first | with_reducible exact mm0 | refine mmS ?_))) (rcells_getA (m := 2) (by omega) _ rfl) ?_
      refine JL_guard_yes rfl rfl ?_
      refine JL_len sl26 rfl ?_
      refine JL_guard_yes rfl rfl ?_
      refine JL_gtr rfl rfl ?_
      refine JL_split (fun h30 => ?_) (fun h30 => ?_)
      · refine JL_pick_f rfl rfl ?_
        refine JL_done_up 45 [] [_] rfl rfl (by simp only [nrmF]; rfl) rfl rfl ?_
        refine JC_true rfl ?_
        refine JC_seq ?_
        refine JC_region ?_
        refine JL_assign rfl ?_
        refine JL_done_up 45 [] [_] rfl rfl (by simp only [nrmF]; rfl) rfl rfl ?_
        refine JC_ret ?_
        refine JE_block_ret ?_
        refine JE_then_ret ?_
        refine JE_nextS_ret ?_
        refine JE_block_ret ?_
        refine JE_then_ret ?_
        refine JE_ret (vs := [_]) [] Tryz.results5 ⟨rfl, rfl⟩ ?_ ?_
        · exact ⟨false, rfl, rfl, fun h => absurd h (by decide)⟩
        · exact all_nil
      · refine JL_pick_f rfl rfl ?_
        refine JL_done_up 45 [] [_] rfl rfl (by simp only [nrmF]; rfl) rfl rfl ?_
        refine JC_false rfl ?_
        refine JC_skip ?_
        refine JE_block_normal ?_
        refine JE_then ?_
        refine JC_region ?_
        refine JL_move rfl ?_
        refine JL_add_to rfl rfl (IntWalk.i64_in _ (by omega)) ?_
        refine JL_assign rfl ?_
        refine JL_nil_up 45 [] [_] rfl rfl (by simp only [nrmF]; rfl) rfl rfl ?_
        refine JE_nextS (k + 1) (by kernel_rfl) ?_ ?_ (by kernel_rfl) ?_
        · exact ⟨by omega, fun i hi => by
          by_cases h : i = k
          · subst h; exact ⟨by omega, by omega⟩
          · exact hok i (by omega)⟩
        · first | omega | (dsimp only; omega)
        · exact subset_app subset_nil ss0
  · refine JL_done_up 45 [] [_] rfl rfl (by simp only [nrmF]; rfl) rfl rfl ?_
    refine JC_false rfl ?_
    refine JC_exit ?_
    refine JE_then_exit ?_
    refine JE_nextS_exit ?_
    refine JE_block_exit ?_
    refine JE_then ?_
    refine JC_seq ?_
    refine JC_region ?_
    refine JL_move rfl ?_
    refine JL_len sl22 rfl ?_
    refine JL_leq rfl rfl ?_
    refine JL_split (fun h34 => ?_) (fun h34 => ?_)
    · refine JL_move rfl ?_
      refine JL_guard_yes rfl rfl ?_
      refine JL_move rfl ?_
      refine JL_guard_yes rfl rfl ?_
      refine JL_len sl22 rfl ?_
      refine JL_guard_yes rfl rfl ?_
      refine JL_leq rfl rfl ?_
      refine JL_split (fun h38 => ?_) (fun h38 => ?_)
      · refine JL_pick_t rfl rfl ?_
        refine JL_move rfl ?_
        refine JL_guard_yes rfl rfl ?_
        refine JL_move rfl ?_
        refine JL_guard_yes rfl rfl ?_
        refine JL_len sl23 rfl ?_
        refine JL_guard_yes rfl rfl ?_
        refine JL_leq rfl rfl ?_
        refine JL_split (fun h43 => ?_) (fun h43 => ?_)
        · refine JL_pick_t rfl rfl ?_
          refine JL_assign rfl ?_
          refine JL_done_up 45 [] [_] rfl rfl (by simp only [nrmF]; rfl) rfl rfl ?_
          refine JC_ret ?_
          refine JE_ret (vs := [_]) [] Tryz.results5 ⟨rfl, rfl⟩ ?_ ?_
          · exact ⟨true, rfl, rfl, fun _ => ⟨by omega, by omega, by omega, fun i hi => hok i (by omega)⟩⟩
          · exact all_nil
        · refine JL_pick_t rfl rfl ?_
          refine JL_assign rfl ?_
          refine JL_done_up 45 [] [_] rfl rfl (by simp only [nrmF]; rfl) rfl rfl ?_
          refine JC_ret ?_
          refine JE_ret (vs := [_]) [] Tryz.results5 ⟨rfl, rfl⟩ ?_ ?_
          · exact ⟨false, rfl, rfl, fun h => absurd h (by decide)⟩
          · exact all_nil
      · refine JL_pick_t rfl rfl ?_
        refine JL_move rfl ?_
        refine JL_guard_no rfl rfl ?_
        refine JL_guard_no rfl rfl ?_
        refine JL_guard_no rfl rfl ?_
        refine JL_pick_f rfl rfl ?_
        refine JL_assign rfl ?_
        refine JL_done_up 45 [] [_] rfl rfl (by simp only [nrmF]; rfl) rfl rfl ?_
        refine JC_ret ?_
        refine JE_ret (vs := [_]) [] Tryz.results5 ⟨rfl, rfl⟩ ?_ ?_
        · exact ⟨false, rfl, rfl, fun h => absurd h (by decide)⟩
        · exact all_nil
    · refine JL_move rfl ?_
      refine JL_guard_no rfl rfl ?_
      refine JL_guard_no rfl rfl ?_
      refine JL_guard_no rfl rfl ?_
      refine JL_pick_f rfl rfl ?_
      refine JL_move rfl ?_
      refine JL_guard_no rfl rfl ?_
      refine JL_guard_no rfl rfl ?_
      refine JL_guard_no rfl rfl ?_
      refine JL_pick_f rfl rfl ?_
      refine JL_assign rfl ?_
      refine JL_done_up 45 [] [_] rfl rfl (by simp only [nrmF]; rfl) rfl rfl ?_
      refine JC_ret ?_
      refine JE_ret (vs := [_]) [] Tryz.results5 ⟨rfl, rfl⟩ ?_ ?_
      · exact ⟨false, rfl, rfl, fun h => absurd h (by decide)⟩
      · exact all_nil

set_option maxHeartbeats 1000000 in
theorem icost_con {adv adw : Option Addr} {cv cw : Nat} {V W : List Int} {ad3 : Option Addr} {c3 : Nat} {l : List Fi} (hl : ∀ x ∈ l, x.ok 4) (hn3 : l.length ≤ 1000000) :
    ConF Tryz.prog 6 [.slice adv V.length cv, .slice adw W.length cw, .slice ad3 l.length c3] [vCells adv (i64s V), vCells adw (i64s W), vCells ad3 (rcells l), vFis l]
      (FOE (costO V W l) (costE V W l.length)) := by
  have _ := hn3
  refine ConF_of Tryz.func6 rfl 54 _ rfl rfl ?_
  intro w0
  refine JC_norm ⟨54, [], [_, _, _, _, _, _, _, _, _, _, _, _, _, _, _, _, _, _, _, _, _, _, _, _, _, _, _, _, _, _, _, _, _, _, _, _, _, _, _, _, _, _, _, _, _, _, _, _, _, _, _, _, _, _]⟩ [] [_, _, _, _] rfl rfl rfl ?_
  refine JC_seq ?_
  refine JC_region ?_
  refine JL_alloc z30 (fun b6 => ?_)
  refine JL_assign rfl ?_
  refine JL_done_up 54 [box _ _ [_, _, _]] [_, _, _, _] rfl rfl (by simp only [nrmF]; rfl) rfl rfl ?_
  refine JC_seq ?_
  refine JC_seq ?_
  refine JC_region ?_
  refine JL_move rfl ?_
  refine JL_move rfl ?_
  refine JL_callF' (Asks.cons (holds_of_mem (by repeat (first | with_reducible exact mm0 | refine mmS ?_))) (Asks.cons (holds_of_mem (by repeat (first | with_reducible exact mm0 | refine mmS ?_))) Asks.nil)) (icheck_con) rfl ca18 ⟨rfl, rfl, rfl⟩ ?_
  rintro _ _ ⟨rfl, rfl⟩
  refine JL_assign rfl ?_
  refine JL_done_up 54 [box _ _ [_, _, _]] [_, _, _, _] rfl rfl (by simp only [nrmF]; rfl) rfl rfl ?_
  refine JC_seq ?_
  refine JC_region ?_
  refine JL_move rfl ?_
  refine JL_neq rfl rfl ?_
  refine JL_split (fun h17 => ?_) (fun h17 => ?_)
  · refine JL_done_up 54 [box _ _ [_, _, _]] [_, _, _, _] rfl rfl (by simp only [nrmF]; rfl) rfl rfl ?_
    refine JC_true rfl ?_
    refine JC_seq ?_
    refine JC_region ?_
    refine JL_build (cs := [_, _, _]) [] st30 rfl rfl ?_
    refine JL_move rfl ?_
    refine JL_store (vs := [_, _, _]) 0 ty30 rfl rfl rfl (AllOne.cons rfl (AllOne.cons rfl (AllOne.cons rfl AllOne.nil))) rfl (Nat.le_of_ble_eq_true rfl) ?_
    refine JL_assign rfl ?_
    refine JL_done_up 54 [box _ _ [_, _, _]] [_, _, _, _] rfl rfl (by simp only [nrmF]; rfl) rfl rfl ?_
    refine JC_ret ?_
    refine JE_then_ret ?_
    have hce : costE V W l.length = chk V W := costE_chk h17
    refine JE_nilView ?_
    refine JE_ret (vs := [_, _]) [vCells none (u32s []), vCells none (u32s [])] Tryz.results6 ⟨RV.cell (vs := [_, _, _]) 0 ty30 rfl rfl ⟨rfl, rfl, rfl, trivial⟩, rfl, rfl⟩ ?_ ?_
    · rw [costO_no (by rw [hce]; first | exact h17 | decide), hce]; exact ⟨none, 0, none, 0, rfl, rfl⟩
    · exact (all_cons (by repeat (first | with_reducible exact mm0 | refine mmS ?_)) (all_cons (by repeat (first | with_reducible exact mm0 | refine mmS ?_)) all_nil))
  · refine JL_done_up 54 [box _ _ [_, _, _]] [_, _, _, _] rfl rfl (by simp only [nrmF]; rfl) rfl rfl ?_
    refine JC_false rfl ?_
    refine JC_skip ?_
    refine JE_then ?_
    refine JC_seq ?_
    refine JC_seq ?_
    have hz : chk V W = 0 := Classical.byContradiction h17
    obtain ⟨hn, hvw, hok⟩ := chk_zero hz
    refine JC_region ?_
    refine JL_move rfl ?_
    refine JL_len sl23 rfl ?_
    refine JL_move rfl ?_
    refine JL_len sl22 rfl ?_
    refine JL_neq rfl rfl ?_
    refine JL_split (fun h24 => ?_) (fun h24 => ?_)
    · refine JL_done_up 54 [box _ _ [_, _, _]] [_, _, _, _] rfl rfl (by simp only [nrmF]; rfl) rfl rfl ?_
      refine JC_true rfl ?_
      refine JC_seq ?_
      refine JC_region ?_
      refine JL_build (cs := [_, _, _]) [] st30 rfl rfl ?_
      refine JL_store (vs := [_, _, _]) 0 ty30 rfl rfl rfl (AllOne.cons rfl (AllOne.cons rfl (AllOne.cons rfl AllOne.nil))) rfl (Nat.le_of_ble_eq_true rfl) ?_
      refine JL_assign rfl ?_
      refine JL_done_up 54 [box _ _ [_, _, _]] [_, _, _, _] rfl rfl (by simp only [nrmF]; rfl) rfl rfl ?_
      refine JC_ret ?_
      refine JE_then_ret ?_
      have hce : costE V W l.length = 2 := costE_len hz (by omega)
      refine JE_nilView ?_
      refine JE_ret (vs := [_, _]) [vCells none (u32s []), vCells none (u32s [])] Tryz.results6 ⟨RV.cell (vs := [_, _, _]) 0 ty30 rfl rfl ⟨rfl, rfl, rfl, trivial⟩, rfl, rfl⟩ ?_ ?_
      · rw [costO_no (by rw [hce]; first | exact h24 | decide), hce]; exact ⟨none, 0, none, 0, rfl, rfl⟩
      · exact (all_cons (by repeat (first | with_reducible exact mm0 | refine mmS ?_)) (all_cons (by repeat (first | with_reducible exact mm0 | refine mmS ?_)) all_nil))
    · refine JL_done_up 54 [box _ _ [_, _, _]] [_, _, _, _] rfl rfl (by simp only [nrmF]; rfl) rfl rfl ?_
      refine JC_false rfl ?_
      refine JC_skip ?_
      refine JE_then ?_
      refine JC_seq ?_
      refine JC_region ?_
      refine JL_callF' Asks.nil (fofi_con 0 1 (by omega) (by omega)) rfl ca19 ⟨rfl, rfl, rfl⟩ ?_
      rintro _ _ ⟨ad26, cp26, be26, ce26, rfl, rfl⟩
      refine JL_alloc z30 (fun b9 => ?_)
      refine JL_store (vs := [_, _, _]) 1 ty30 rfl rfl rfl (AllOne.cons rfl (AllOne.cons rfl (AllOne.cons rfl AllOne.nil))) rfl (Nat.le_of_ble_eq_true rfl) ?_
      refine JL_done_up 54 [box _ _ [_, _, _], box _ _ [_, _, _]] [_, _, _, _, _, _] rfl rfl (by simp only [nrmF]; rfl) rfl rfl ?_
      refine JC_seq ?_
      refine JC_seq ?_
      refine JC_region ?_
      refine JL_move rfl ?_
      refine JL_len sl23 rfl ?_
      refine JL_move rfl ?_
      refine JL_done_up 54 [box _ _ [_, _, _], box _ _ [_, _, _]] [_, _, _, _, _, _] rfl rfl (by simp only [nrmF]; rfl) rfl rfl ?_
      refine JC_block ?_
      refine JC_loopS ((Nat) × (Rat) × (Option Addr) × (Nat) × (Option Addr) × (Nat)) (fun (i, q, ad, c, be, e) => i ≤ l.length ∧ q = cst V W (lq l) i ∧ qs q (22 * i + 4)) (fun (i, q, ad, c, be, e) => l.length - i) (fun u (i, q, ad, c, be, e) => [none, none, none, none, none, none, none, none, none, none, some (u 10), some (u 11), some (u 12), none, none, none, none, none, none, none, none, none, none, none, none, none, none, none, none, some (.int .i64 (i : Nat)), some (u 30), some (u 31), some (u 32), some (u 33), some (u 34), some (u 35), some (u 36), some (u 37), some (u 38), some (u 39), some (u 40), some (u 41), some (u 42), some (u 43), some (u 44), some (u 45), some (u 46), some (u 47), some (u 48), some (u 49), some (u 50), some (u 51), some (u 52), none]) (fun (i, q, ad, c, be, e) => [none, some (box b9 30 [.bool (fneg (some q)), .slice ad (fnum (some q)).length c, .slice be (fden (some q)).length e])]) (fun (i, q, ad, c, be, e) => [(true, vCells ad (u32s (fnum (some q)))), (true, vCells be (u32s (fden (some q))))]) (0, ofq 0 1, ad26, cp26, be26, ce26) (by kernel_rfl) ?_ (by kernel_rfl) ?_ ?_
      · exact ⟨Nat.zero_le _, ofq_one 0, (qs_int (by decide)).mono (by decide)⟩
      · exact (subset_cons (by repeat (first | with_reducible exact mm0 | refine mmS ?_)) (subset_cons (by repeat (first | with_reducible exact mm0 | refine mmS ?_)) subset_nil))
      intro u i hC
      obtain ⟨i, q, ad, c, be, e⟩ := i
      obtain ⟨hi, hq, hsq⟩ := hC
      refine JC_norm ⟨54, [], [_, _, _, _, _, _, _, _, _, _, _, _, _, _, _, _, _, _, _, _, _, _, _, _, _, _, _, _, _, _, _, _, _, _, _, _, _, _, _, _, _, _, _, _, _, _, _, _, _, _, _, _, _, _]⟩ [box _ _ [_, _, _], box _ _ [_, _, _]] [_, _, _, _, _, _, _, _] rfl rfl rfl ?_
      refine JC_seq ?_
      refine JC_region ?_
      refine JL_lss rfl rfl ?_
      refine JL_split (fun h30 => ?_) (fun h30 => ?_)
      · refine JL_done_up 54 [box _ _ [_, _, _], box _ _ [_, _, _]] [_, _, _, _, _, _, _, _] rfl rfl (by simp only [nrmF]; rfl) rfl rfl ?_
        refine JC_seq ?_
        refine JC_true rfl ?_
        refine JC_skip ?_
        refine JE_then ?_
        refine JC_seq ?_
        refine JC_block ?_
        refine JC_seq ?_
        have hnl : l.length = V.length := by omega
        obtain ⟨x1, x2, x3, x4⟩ := hok i (by omega)
        have hqv : qs (ofq (V.getD i 0) 1) 3 := qs_int (by omega)
        have hqw : qs (ofq (W.getD i 0) 1) 3 := qs_int (by omega)
        have hxi := hl _ (fi_mem (l := l) (j := i) (by omega))
        refine JC_fisGet (f := false) (l := l) (l.getD i dI) (by repeat (first | with_reducible exact mm0 | refine mmS ?_)) (fi_mem (by omega)) ?_
        have hqx := fi_qs hxi
        have hq1 : qs (ofq (V.getD i 0) 1 - (l.getD i dI).q) 9 := hqv.sub hqx (by decide)
        have hq2 : qs (ofq (W.getD i 0) 1 * ((ofq (V.getD i 0) 1 - (l.getD i dI).q) * (ofq (V.getD i 0) 1 - (l.getD i dI).q))) 21 := hqw.mul (hq1.mul hq1 (Nat.le_refl 18)) (Nat.le_refl 21)
        have hq3 : qs (q + (ofq (W.getD i 0) 1 * ((ofq (V.getD i 0) 1 - (l.getD i dI).q) * (ofq (V.getD i 0) 1 - (l.getD i dI).q)))) (22 * (i + 1) + 4) := hsq.add hq2 (by omega)
        refine JC_region ?_
        refine JL_move rfl ?_
        refine JL_indexAddr i sl23 rfl rfl rfl (by omega) (by first | exact Reads.view (by repeat (first | with_reducible exact mm0 | refine mmS ?_))) (by rw [rcells_length]; omega) ?_
        refine JL_loadEA (vs := [_, _, _]) ty30 (Nat.zero_lt_succ _) rfl (by first | exact Reads.view (by repeat (first | with_reducible exact mm0 | refine mmS ?_))) (rcells_getA (by omega)) ?_
        refine JL_alloc z30 (fun b11 => ?_)
        refine JL_assign rfl ?_
        refine JL_store (vs := [_, _, _]) 2 ty30 rfl rfl rfl (AllOne.cons rfl (AllOne.cons rfl (AllOne.cons rfl AllOne.nil))) rfl (Nat.le_of_ble_eq_true rfl) ?_
        refine JL_done_up 54 [box _ _ [_, _, _], box _ _ [_, _, _], box _ _ [_, _, _]] [_, _, _, _, _, _, _, _, _, _] rfl rfl (by simp only [nrmF]; rfl) rfl rfl ?_
        refine JC_seq ?_
        refine JC_drawT mixed 8 [spV 34 [] _, spV 35 [] _, spV 36 [0, 1] _, spV 37 [2] _, spC 38 [3] _, spV 39 [] _, spC 40 [4, 5] _, spA 12 30 [.bool false, .slice none 0 0, .slice none 0 0]] ⟨OblS_V (fun vals ex ψ => (by
            refine JL_normQ ⟨54, [(34, _), (35, _), (36, _), (37, _), (38, _), (39, _), (40, _), (12, _)], _⟩ (_ :: _ :: _ :: _ :: _ :: _ :: _ :: _ :: _ :: _ :: ψ) rfl rfl ?_
            refine JL_move rfl ?_
            exact JL_nil (JE_stepV rfl ss0))), OblS_V (fun vals ex ψ => (by
            refine JL_normQ ⟨54, [(34, _), (35, _), (36, _), (37, _), (38, _), (39, _), (40, _), (12, _)], _⟩ (_ :: _ :: _ :: _ :: _ :: _ :: _ :: _ :: _ :: _ :: ψ) rfl rfl ?_
            refine JL_move rfl ?_
            exact JL_nil (JE_stepV rfl ss0))), OblS_V (fun vals ex ψ => (by
            refine JL_normQ ⟨54, [(34, _), (35, _), (36, _), (37, _), (38, _), (39, _), (40, _), (12, _)], _⟩ (_ :: _ :: _ :: _ :: _ :: _ :: _ :: _ :: _ :: _ :: ψ) rfl rfl ?_
            refine JL_idx i sl22 rfl rfl rfl (by omega) (by first | exact Reads.view (by repeat (first | with_reducible exact mm0 | refine mmS ?_))) (by first | (rw [u32s_length]; omega) | (rw [i64s_length]; omega)) ?_
            exact JL_nil (JE_stepV rfl ss0))), OblS_V (fun vals ex ψ => (by
            refine JL_normQ ⟨54, [(34, _), (35, _), (36, _), (37, _), (38, _), (39, _), (40, _), (12, _)], _⟩ (_ :: _ :: _ :: _ :: _ :: _ :: _ :: _ :: _ :: _ :: ψ) rfl rfl ?_
            refine JL_loadE ty3 rfl (by first | exact Reads.view (by repeat (first | with_reducible exact mm0 | refine mmS ?_))) (i64s_get (by omega)) ?_
            exact JL_nil (JE_stepV rfl ss0))), OblS_C (fun vals ex ψ => (by
            refine JL_normQ ⟨54, [(34, _), (35, _), (36, _), (37, _), (38, _), (39, _), (40, _), (12, _)], _⟩ (_ :: _ :: _ :: _ :: _ :: _ :: _ :: _ :: _ :: _ :: ψ) rfl rfl ?_
            refine JL_callF' Asks.nil (fofi_con (V.getD i 0) 1 (by omega) (by omega)) rfl ca19 ⟨rfl, rfl, rfl⟩ ?_
            exact fun v φo hP => JL_nil (JE_stepC φo rfl hP (fun p hp => mapB_l hp) (fun p hp => mapB_r (ss0 p hp))))), OblS_V (fun vals ex ψ => (by
            refine JL_normQ ⟨54, [(34, _), (35, _), (36, _), (37, _), (38, _), (39, _), (40, _), (12, _)], _⟩ (_ :: _ :: _ :: _ :: _ :: _ :: _ :: _ :: _ :: _ :: ψ) rfl rfl ?_
            refine JL_loadA (vs := [_, _, _]) 2 ty30 rfl rfl ⟨rfl, rfl, rfl, trivial⟩ ?_
            exact JL_nil (JE_stepV rfl ss0))), OblS_C (fun vals ex ψ => (by
            refine JL_normQ ⟨54, [(34, _), (35, _), (36, _), (37, _), (38, _), (39, _), (40, _), (12, _)], _⟩ (_ :: _ :: _ :: _ :: _ :: _ :: _ :: _ :: _ :: _ :: _ :: ψ) rfl rfl ?_
            generalize vals 4 = x38
            refine JL_usePost mm0 (fun φo hP => ?_)
            obtain ⟨ad38, cp38, be38, ce38, rfl, rfl⟩ := hP
            refine JL_norm _ _ (_ :: _ :: _ :: _ :: _ :: _ :: _ :: _ :: _ :: _ :: _ :: _ :: _ :: ψ) rfl rfl rfl ?_
            refine JL_callF' (Asks.cons (holds_of_mem (by repeat (first | with_reducible exact mm0 | refine mmS ?_))) (Asks.cons (holds_of_mem (by repeat (first | with_reducible exact mm0 | refine mmS ?_))) (Asks.cons (holds_of_mem (by repeat (first | with_reducible exact mm0 | refine mmS ?_))) (Asks.cons (holds_of_mem (by repeat (first | with_reducible exact mm0 | refine mmS ?_))) Asks.nil)))) (fsubq_con (FIn.some (hqv.mono (by decide))) (hxi.mono (by decide))) rfl ca20 ⟨rfl, rfl, rfl⟩ ?_
            exact fun v φo hP => JL_nil (JE_stepC φo rfl hP (fun p hp => mapB_l hp) (fun p hp => mapB_r ((ssS (ssS ss0)) p hp))))), OblS_al rfl z30, trivial⟩ (by kernel_rfl) (fun vals bs => ?_)
        refine JL_normL [_] ⟨54, [(34, _), (35, _), (36, _), (37, _), (38, _), (39, _), (40, _), (12, _)], _⟩ [box _ _ [_, _, _], box _ _ [_, _, _], box _ _ [_, _, _], box _ _ [_, _, _]] [_, _, _, _, _, _, _, _, _, _, _, _] rfl rfl rfl rfl ?_
        generalize vals (0 + 1 + 1 + 1 + 1) = x38
        generalize vals (0 + 1 + 1 + 1 + 1 + 1 + 1) = x40
        generalize bs (0 + 1 + 1 + 1 + 1 + 1 + 1 + 1) = b12
        refine JL_usePost (mmS mm0) (fun φo hP => ?_)
        obtain ⟨ad40, cp40, be40, ce40, rfl, rfl⟩ := hP
        refine JL_norm _ [box _ _ [_, _, _], box _ _ [_, _, _], box _ _ [_, _, _], box _ _ [_, _, _]] [_, _, _, _, _, _, _, _, _, _, _, _, _, _] rfl rfl rfl ?_
        refine JL_store (vs := [_, _, _]) 3 ty30 rfl rfl rfl (AllOne.cons rfl (AllOne.cons rfl (AllOne.cons rfl AllOne.nil))) rfl (Nat.le_of_ble_eq_true rfl) ?_
        refine JL_done_up 54 [box _ _ [_, _, _], box _ _ [_, _, _], box _ _ [_, _, _], box _ _ [_, _, _]] [_, _, _, _, _, _, _, _, _, _, _, _, _, _] rfl rfl (by simp only [nrmF]; rfl) rfl rfl ?_
        refine JC_drawT mixed 10 [spV 41 [] _, spV 42 [] _, spV 43 [] _, spV 44 [1, 2] _, spV 45 [3] _, spC 46 [4] _, spV 47 [] _, spV 48 [] _, spC 49 [6, 7] _, spC 50 [5, 8] _] ⟨OblS_V (fun vals ex ψ => (by
            refine JL_normQ ⟨54, [(41, _), (42, _), (43, _), (44, _), (45, _), (46, _), (47, _), (48, _), (49, _), (50, _)], _⟩ (_ :: _ :: _ :: _ :: _ :: _ :: _ :: _ :: _ :: _ :: _ :: _ :: _ :: _ :: ψ) rfl rfl ?_
            refine JL_loadA (vs := [_, _, _]) 1 ty30 rfl rfl ⟨rfl, rfl, rfl, trivial⟩ ?_
            exact JL_nil (JE_stepV rfl ss0))), OblS_V (fun vals ex ψ => (by
            refine JL_normQ ⟨54, [(41, _), (42, _), (43, _), (44, _), (45, _), (46, _), (47, _), (48, _), (49, _), (50, _)], _⟩ (_ :: _ :: _ :: _ :: _ :: _ :: _ :: _ :: _ :: _ :: _ :: _ :: _ :: _ :: ψ) rfl rfl ?_
            refine JL_move rfl ?_
            exact JL_nil (JE_stepV rfl ss0))), OblS_V (fun vals ex ψ => (by
            refine JL_normQ ⟨54, [(41, _), (42, _), (43, _), (44, _), (45, _), (46, _), (47, _), (48, _), (49, _), (50, _)], _⟩ (_ :: _ :: _ :: _ :: _ :: _ :: _ :: _ :: _ :: _ :: _ :: _ :: _ :: _ :: ψ) rfl rfl ?_
            refine JL_move rfl ?_
            exact JL_nil (JE_stepV rfl ss0))), OblS_V (fun vals ex ψ => (by
            refine JL_normQ ⟨54, [(41, _), (42, _), (43, _), (44, _), (45, _), (46, _), (47, _), (48, _), (49, _), (50, _)], _⟩ (_ :: _ :: _ :: _ :: _ :: _ :: _ :: _ :: _ :: _ :: _ :: _ :: _ :: _ :: ψ) rfl rfl ?_
            refine JL_idx i sl22 rfl rfl rfl (by omega) (by first | exact Reads.view (by repeat (first | with_reducible exact mm0 | refine mmS ?_))) (by first | (rw [u32s_length]; omega) | (rw [i64s_length]; omega)) ?_
            exact JL_nil (JE_stepV rfl ss0))), OblS_V (fun vals ex ψ => (by
            refine JL_normQ ⟨54, [(41, _), (42, _), (43, _), (44, _), (45, _), (46, _), (47, _), (48, _), (49, _), (50, _)], _⟩ (_ :: _ :: _ :: _ :: _ :: _ :: _ :: _ :: _ :: _ :: _ :: _ :: _ :: _ :: ψ) rfl rfl ?_
            refine JL_loadE ty3 rfl (by first | exact Reads.view (by repeat (first | with_reducible exact mm0 | refine mmS ?_))) (i64s_get (by omega)) ?_
            exact JL_nil (JE_stepV rfl ss0))), OblS_C (fun vals ex ψ => (by
            refine JL_normQ ⟨54, [(41, _), (42, _), (43, _), (44, _), (45, _), (46, _), (47, _), (48, _), (49, _), (50, _)], _⟩ (_ :: _ :: _ :: _ :: _ :: _ :: _ :: _ :: _ :: _ :: _ :: _ :: _ :: _ :: ψ) rfl rfl ?_
            refine JL_callF' Asks.nil (fofi_con (W.getD i 0) 1 (by omega) (by omega)) rfl ca19 ⟨rfl, rfl, rfl⟩ ?_
            exact fun v φo hP => JL_nil (JE_stepC φo rfl hP (fun p hp => mapB_l hp) (fun p hp => mapB_r (ss0 p hp))))), OblS_V (fun vals ex ψ => (by
            refine JL_normQ ⟨54, [(41, _), (42, _), (43, _), (44, _), (45, _), (46, _), (47, _), (48, _), (49, _), (50, _)], _⟩ (_ :: _ :: _ :: _ :: _ :: _ :: _ :: _ :: _ :: _ :: _ :: _ :: _ :: _ :: ψ) rfl rfl ?_
            refine JL_loadA (vs := [_, _, _]) 3 ty30 rfl rfl ⟨rfl, rfl, rfl, trivial⟩ ?_
            exact JL_nil (JE_stepV rfl ss0))), OblS_V (fun vals ex ψ => (by
            refine JL_normQ ⟨54, [(41, _), (42, _), (43, _), (44, _), (45, _), (46, _), (47, _), (48, _), (49, _), (50, _)], _⟩ (_ :: _ :: _ :: _ :: _ :: _ :: _ :: _ :: _ :: _ :: _ :: _ :: _ :: _ :: ψ) rfl rfl ?_
            refine JL_loadA (vs := [_, _, _]) 3 ty30 rfl rfl ⟨rfl, rfl, rfl, trivial⟩ ?_
            exact JL_nil (JE_stepV rfl ss0))), OblS_C (fun vals ex ψ => (by
            refine JL_normQ ⟨54, [(41, _), (42, _), (43, _), (44, _), (45, _), (46, _), (47, _), (48, _), (49, _), (50, _)], _⟩ (_ :: _ :: _ :: _ :: _ :: _ :: _ :: _ :: _ :: _ :: _ :: _ :: _ :: _ :: ψ) rfl rfl ?_
            refine JL_callF' (Asks.cons (holds_of_mem (by repeat (first | with_reducible exact mm0 | refine mmS ?_))) (Asks.cons (holds_of_mem (by repeat (first | with_reducible exact mm0 | refine mmS ?_))) (Asks.cons (holds_of_mem (by repeat (first | with_reducible exact mm0 | refine mmS ?_))) (Asks.cons (holds_of_mem (by repeat (first | with_reducible exact mm0 | refine mmS ?_))) Asks.nil)))) (fmulq_con (FIn.some (q := (ofq (V.getD i 0) 1 - (l.getD i dI).q)) (hq1.mono (by decide))) (FIn.some (q := (ofq (V.getD i 0) 1 - (l.getD i dI).q)) (hq1.mono (by decide)))) rfl ca22 ⟨rfl, rfl, rfl⟩ ?_
            exact fun v φo hP => JL_nil (JE_stepC φo rfl hP (fun p hp => mapB_l hp) (fun p hp => mapB_r (ss0 p hp))))), OblS_C (fun vals ex ψ => (by
            refine JL_normQ ⟨54, [(41, _), (42, _), (43, _), (44, _), (45, _), (46, _), (47, _), (48, _), (49, _), (50, _)], _⟩ (_ :: _ :: _ :: _ :: _ :: _ :: _ :: _ :: _ :: _ :: _ :: _ :: _ :: _ :: _ :: _ :: ψ) rfl rfl ?_
            generalize vals 5 = x46
            refine JL_usePost mm0 (fun φo hP => ?_)
            obtain ⟨ad46, cp46, be46, ce46, rfl, rfl⟩ := hP
            refine JL_norm _ _ (_ :: _ :: _ :: _ :: _ :: _ :: _ :: _ :: _ :: _ :: _ :: _ :: _ :: _ :: _ :: _ :: _ :: _ :: ψ) rfl rfl rfl ?_
            generalize vals 8 = x49
            refine JL_usePost (mmS (mmS (mmS mm0))) (fun φo hP => ?_)
            obtain ⟨ad49, cp49, be49, ce49, rfl, rfl⟩ := hP
            refine JL_norm _ _ (_ :: _ :: _ :: _ :: _ :: _ :: _ :: _ :: _ :: _ :: _ :: _ :: _ :: _ :: _ :: _ :: _ :: _ :: _ :: _ :: ψ) rfl rfl rfl ?_
            refine JL_callF' (Asks.cons (holds_of_mem (by repeat (first | with_reducible exact mm0 | refine mmS ?_))) (Asks.cons (holds_of_mem (by repeat (first | with_reducible exact mm0 | refine mmS ?_))) (Asks.cons (holds_of_mem (by repeat (first | with_reducible exact mm0 | refine mmS ?_))) (Asks.cons (holds_of_mem (by repeat (first | with_reducible exact mm0 | refine mmS ?_))) Asks.nil)))) (fmulq_con (FIn.some (hqw.mono (by decide))) (FIn.some ((hq1.mul hq1 (Nat.le_refl 18)).mono (by decide)))) rfl ca22 ⟨rfl, rfl, rfl⟩ ?_
            exact fun v φo hP => JL_nil (JE_stepC φo rfl hP (fun p hp => mapB_l hp) (fun p hp => mapB_r ((ssS (ssS (ssS (ssS ss0)))) p hp))))), trivial⟩ (by kernel_rfl) (fun vals bs => ?_)
        refine JL_normL [_, _] ⟨54, [(41, _), (42, _), (43, _), (44, _), (45, _), (46, _), (47, _), (48, _), (49, _), (50, _)], _⟩ [box _ _ [_, _, _], box _ _ [_, _, _], box _ _ [_, _, _], box _ _ [_, _, _]] [_, _, _, _, _, _, _, _, _, _, _, _, _, _, _, _, _] rfl rfl rfl rfl ?_
        generalize vals (0 + 1 + 1 + 1 + 1 + 1) = x46
        generalize vals (0 + 1 + 1 + 1 + 1 + 1 + 1 + 1 + 1) = x49
        generalize vals (0 + 1 + 1 + 1 + 1 + 1 + 1 + 1 + 1 + 1) = x50
        refine JL_usePost (mmS (mmS mm0)) (fun φo hP => ?_)
        obtain ⟨ad50, cp50, be50, ce50, rfl, rfl⟩ := hP
        refine JL_norm _ [box _ _ [_, _, _], box _ _ [_, _, _], box _ _ [_, _, _], box _ _ [_, _, _]] [_, _, _, _, _, _, _, _, _, _, _, _, _, _, _, _, _, _, _] rfl rfl rfl ?_
        refine JL_callF' (Asks.cons (holds_of_mem (by repeat (first | with_reducible exact mm0 | refine mmS ?_))) (Asks.cons (holds_of_mem (by repeat (first | with_reducible exact mm0 | refine mmS ?_))) (Asks.cons (holds_of_mem (by repeat (first | with_reducible exact mm0 | refine mmS ?_))) (Asks.cons (holds_of_mem (by repeat (first | with_reducible exact mm0 | refine mmS ?_))) Asks.nil)))) (faddq_con (FIn.some (hsq.mono (by omega))) (FIn.some (q := (ofq (W.getD i 0) 1 * ((ofq (V.getD i 0) 1 - (l.getD i dI).q) * (ofq (V.getD i 0) 1 - (l.getD i dI).q)))) (hq2.mono (by decide)))) rfl ca21 ⟨rfl, rfl, rfl⟩ ?_
        rintro _ _ ⟨ad51, cp51, be51, ce51, rfl, rfl⟩
        refine JL_store (vs := [_, _, _]) 1 ty30 rfl rfl rfl (AllOne.cons rfl (AllOne.cons rfl (AllOne.cons rfl AllOne.nil))) rfl (Nat.le_of_ble_eq_true rfl) ?_
        refine JL_nil_up 54 [box _ _ [_, _, _], box _ _ [_, _, _], box _ _ [_, _, _], box _ _ [_, _, _]] [_, _, _, _, _, _, _, _, _, _, _, _, _, _, _, _, _, _, _, _, _] rfl rfl (by simp only [nrmF]; rfl) rfl rfl ?_
        refine JE_block_normal ?_
        refine JE_then ?_
        refine JC_region ?_
        refine JL_add_to rfl rfl (IntWalk.i64_in _ (by omega)) ?_
        refine JL_move rfl ?_
        refine JL_nil_up 54 [box _ _ [_, _, _], box _ _ [_, _, _], box _ _ [_, _, _], box _ _ [_, _, _]] [_, _, _, _, _, _, _, _, _, _, _, _, _, _, _, _, _, _, _, _, _] rfl rfl (by simp only [nrmF]; rfl) rfl rfl ?_
        refine JE_dropAt 3 ?_
        refine JE_norm _ [box _ _ [_, _, _], box _ _ [_, _, _], box _ _ [_, _, _]] [_, _, _, _, _, _, _, _, _, _, _, _, _, _, _, _, _, _, _, _, _] rfl rfl rfl ?_
        refine JE_dropAt 2 ?_
        refine JE_norm _ [box _ _ [_, _, _], box _ _ [_, _, _]] [_, _, _, _, _, _, _, _, _, _, _, _, _, _, _, _, _, _, _, _, _] rfl rfl rfl ?_
        refine JE_nextS (i + 1, q + (ofq (W.getD i 0) 1 * ((ofq (V.getD i 0) 1 - (l.getD i dI).q) * (ofq (V.getD i 0) 1 - (l.getD i dI).q))), ad51, cp51, be51, ce51) (by kernel_rfl) ?_ ?_ (by kernel_rfl) ?_
        · exact ⟨by omega, by rw [hq, cst, ofq_one, ofq_one]; rfl, hq3⟩
        · first | omega | (dsimp only; omega)
        · exact subset_app (subset_cons (by repeat (first | with_reducible exact mm0 | refine mmS ?_)) (subset_cons (by repeat (first | with_reducible exact mm0 | refine mmS ?_)) subset_nil)) (ssS (ssS (ssS (ssS (ssS (ssS (ssS (ssS (ssS (ssS (ssS (ssS (ssS (ssS (ssS ss0)))))))))))))))
      · refine JL_done_up 54 [box _ _ [_, _, _], box _ _ [_, _, _]] [_, _, _, _, _, _, _, _] rfl rfl (by simp only [nrmF]; rfl) rfl rfl ?_
        refine JC_seq ?_
        refine JC_false rfl ?_
        refine JC_exit ?_
        refine JE_then_exit ?_
        refine JE_nextS_exit ?_
        refine JE_block_exit ?_
        refine JE_then ?_
        refine JC_seq ?_
        refine JC_region ?_
        refine JL_loadA (vs := [_, _, _]) 1 ty30 rfl rfl ⟨rfl, rfl, rfl, trivial⟩ ?_
        refine JL_store (vs := [_, _, _]) 0 ty30 rfl rfl rfl (AllOne.cons rfl (AllOne.cons rfl (AllOne.cons rfl AllOne.nil))) rfl (Nat.le_of_ble_eq_true rfl) ?_
        refine JL_assign rfl ?_
        refine JL_done_up 54 [box _ _ [_, _, _], box _ _ [_, _, _]] [_, _, _, _, _, _, _, _] rfl rfl (by simp only [nrmF]; rfl) rfl rfl ?_
        refine JC_ret ?_
        have hie : i = V.length := by omega
        subst hie
        have hce : costE V W l.length = 0 := costE_ok hz (by omega)
        have hqe : q = costV V W l := hq
        subst hqe
        refine JE_ret (vs := [_, _]) [vCells ad (u32s (fnum (some (costV V W l)))), vCells be (u32s (fden (some (costV V W l))))] Tryz.results6 ⟨RV.cell (vs := [_, _, _]) 0 ty30 rfl rfl ⟨rfl, rfl, rfl, trivial⟩, rfl, rfl⟩ ?_ ?_
        · rw [costO_ok hce, hce]; exact ⟨ad, c, be, e, rfl, rfl⟩
        · exact (all_cons (by repeat (first | with_reducible exact mm0 | refine mmS ?_)) (all_cons (by repeat (first | with_reducible exact mm0 | refine mmS ?_)) all_nil))

theorem ifalling_con {ad3 : Option Addr} {c3 : Nat} {l : List Fi} (hl : ∀ x ∈ l, x.ok 4) (hn3 : l.length ≤ 1000000) :
    ConF Tryz.prog 11 [.slice ad3 l.length c3] [vCells ad3 (rcells l), vFis l]
      (fun v φo => v = .bool (decide (Falls l)) ∧ φo = []) := by
  refine ConF_of Tryz.func11 rfl 21 _ rfl rfl ?_
  intro w0
  refine JC_norm ⟨21, [], [_, _, _, _, _, _, _, _, _, _, _, _, _, _, _, _, _, _, _, _, _]⟩ [] [_, _] rfl rfl rfl ?_
  refine JC_seq ?_
  refine JC_region ?_
  refine JL_assign rfl ?_
  refine JL_done_up 21 [] [_, _] rfl rfl (by simp only [nrmF]; rfl) rfl rfl ?_
  refine JC_seq ?_
  refine JC_seq ?_
  refine JC_region ?_
  refine JL_assign rfl ?_
  refine JL_done_up 21 [] [_, _] rfl rfl (by simp only [nrmF]; rfl) rfl rfl ?_
  refine JC_block ?_
  refine JC_loopS ((Nat)) (fun (i : Nat) => 1 ≤ i ∧ (i ≤ l.length ∨ i = 1) ∧ ∀ j, j + 1 < i → (l.getD (j + 1) dI).q ≤ (l.getD j dI).q) (fun (i : Nat) => l.length - i) (fun u (i : Nat) => [none, none, some (u 2), some (.int .i64 (i : Nat)), some (u 4), some (u 5), some (u 6), some (u 7), some (u 8), some (u 9), some (u 10), some (u 11), some (u 12), some (u 13), some (u 14), some (u 15), some (u 16), some (u 17), some (u 18), some (u 19), some (u 20)]) (fun (i : Nat) => []) (fun (i : Nat) => []) (1) (by kernel_rfl) ?_ (by kernel_rfl) ?_ ?_
  · exact ⟨Nat.le_refl _, .inr rfl, fun j hj => absurd hj (by omega)⟩
  · exact subset_nil
  intro u i hC
  obtain ⟨hi1, hi2, hf⟩ := hC
  refine JC_norm ⟨21, [], [_, _, _, _, _, _, _, _, _, _, _, _, _, _, _, _, _, _, _, _, _]⟩ [] [_, _] rfl rfl rfl ?_
  refine JC_seq ?_
  refine JC_seq ?_
  refine JC_region ?_
  refine JL_move rfl ?_
  refine JL_move rfl ?_
  refine JL_len sl23 rfl ?_
  refine JL_lss rfl rfl ?_
  refine JL_split (fun h7 => ?_) (fun h7 => ?_)
  · refine JL_done_up 21 [] [_, _] rfl rfl (by simp only [nrmF]; rfl) rfl rfl ?_
    refine JC_true rfl ?_
    refine JC_skip ?_
    refine JE_then ?_
    refine JC_seq ?_
    refine JC_block ?_
    refine JC_seq ?_
    have hxim1 := hl _ (fi_mem (l := l) (j := (i - 1)) (by omega))
    refine JC_fisGet (f := false) (l := l) (l.getD (i - 1) dI) (by repeat (first | with_reducible exact mm0 | refine mmS ?_)) (fi_mem (by omega)) ?_
    have hxi := hl _ (fi_mem (l := l) (j := i) (by omega))
    refine JC_fisGet (f := false) (l := l) (l.getD i dI) (by repeat (first | with_reducible exact mm0 | refine mmS ?_)) (fi_mem (by omega)) ?_
    refine JC_drawT mixed 9 [spV 10 [] _, spV 11 [] _, spV 12 [1] _, spV 13 [0, 2] _, spV 14 [3] _, spV 15 [] _, spV 16 [] _, spV 17 [5, 6] _, spV 18 [7] _] ⟨OblS_V (fun vals ex ψ => (by
        refine JL_normQ ⟨21, [(10, _), (11, _), (12, _), (13, _), (14, _), (15, _), (16, _), (17, _), (18, _)], _⟩ (_ :: _ :: _ :: _ :: _ :: _ :: ψ) rfl rfl ?_
        refine JL_move rfl ?_
        exact JL_nil (JE_stepV rfl ss0))), OblS_V (fun vals ex ψ => (by
        refine JL_normQ ⟨21, [(10, _), (11, _), (12, _), (13, _), (14, _), (15, _), (16, _), (17, _), (18, _)], _⟩ (_ :: _ :: _ :: _ :: _ :: _ :: ψ) rfl rfl ?_
        refine JL_move rfl ?_
        exact JL_nil (JE_stepV rfl ss0))), OblS_V (fun vals ex ψ => (by
        refine JL_normQ ⟨21, [(10, _), (11, _), (12, _), (13, _), (14, _), (15, _), (16, _), (17, _), (18, _)], _⟩ (_ :: _ :: _ :: _ :: _ :: _ :: ψ) rfl rfl ?_
        refine JL_sub_to rfl rfl (IntWalk.i64_in _ (by omega)) ?_
        rw [show ((i : Int) - 1 : Int) = ((i - 1 : Nat) : Int) from by omega]
        exact JL_nil (JE_stepV rfl ss0))), OblS_V (fun vals ex ψ => (by
        refine JL_normQ ⟨21, [(10, _), (11, _), (12, _), (13, _), (14, _), (15, _), (16, _), (17, _), (18, _)], _⟩ (_ :: _ :: _ :: _ :: _ :: _ :: ψ) rfl rfl ?_
        refine JL_indexAddr (i - 1) sl23 rfl rfl rfl (by omega) (by first | exact Reads.view (by repeat (first | with_reducible exact mm0 | refine mmS ?_))) (by rw [rcells_length]; omega) ?_
        exact JL_nil (JE_stepV rfl ss0))), OblS_V (fun vals ex ψ => (by
        refine JL_normQ ⟨21, [(10, _), (11, _), (12, _), (13, _), (14, _), (15, _), (16, _), (17, _), (18, _)], _⟩ (_ :: _ :: _ :: _ :: _ :: _ :: ψ) rfl rfl ?_
        refine JL_loadEA (vs := [_, _, _]) ty30 (Nat.zero_lt_succ _) rfl (by first | exact Reads.view (by repeat (first | with_reducible exact mm0 | refine mmS ?_))) (rcells_getA (by omega)) ?_
        exact JL_nil (JE_stepV rfl ss0))), OblS_V (fun vals ex ψ => (by
        refine JL_normQ ⟨21, [(10, _), (11, _), (12, _), (13, _), (14, _), (15, _), (16, _), (17, _), (18, _)], _⟩ (_ :: _ :: _ :: _ :: _ :: _ :: ψ) rfl rfl ?_
        refine JL_move rfl ?_
        exact JL_nil (JE_stepV rfl ss0))), OblS_V (fun vals ex ψ => (by
        refine JL_normQ ⟨21, [(10, _), (11, _), (12, _), (13, _), (14, _), (15, _), (16, _), (17, _), (18, _)], _⟩ (_ :: _ :: _ :: _ :: _ :: _ :: ψ) rfl rfl ?_
        refine JL_move rfl ?_
        exact JL_nil (JE_stepV rfl ss0))), OblS_V (fun vals ex ψ => (by
        refine JL_normQ ⟨21, [(10, _), (11, _), (12, _), (13, _), (14, _), (15, _), (16, _), (17, _), (18, _)], _⟩ (_ :: _ :: _ :: _ :: _ :: _ :: ψ) rfl rfl ?_
        refine JL_indexAddr i sl23 rfl rfl rfl (by omega) (by first | exact Reads.view (by repeat (first | with_reducible exact mm0 | refine mmS ?_))) (by rw [rcells_length]; omega) ?_
        exact JL_nil (JE_stepV rfl ss0))), OblS_V (fun vals ex ψ => (by
        refine JL_normQ ⟨21, [(10, _), (11, _), (12, _), (13, _), (14, _), (15, _), (16, _), (17, _), (18, _)], _⟩ (_ :: _ :: _ :: _ :: _ :: _ :: ψ) rfl rfl ?_
        refine JL_loadEA (vs := [_, _, _]) ty30 (Nat.zero_lt_succ _) rfl (by first | exact Reads.view (by repeat (first | with_reducible exact mm0 | refine mmS ?_))) (rcells_getA (by omega)) ?_
        exact JL_nil (JE_stepV rfl ss0))), trivial⟩ (by kernel_rfl) (fun vals bs => ?_)
    refine JL_normL [_, _] ⟨21, [(10, _), (11, _), (12, _), (13, _), (14, _), (15, _), (16, _), (17, _), (18, _)], _⟩ [] [_, _, _, _, _, _] rfl rfl rfl rfl ?_
    refine JL_callF' (Asks.cons (holds_of_mem (by repeat (first | with_reducible exact mm0 | refine mmS ?_))) (Asks.cons (holds_of_mem (by repeat (first | with_reducible exact mm0 | refine mmS ?_))) (Asks.cons (holds_of_mem (by repeat (first | with_reducible exact mm0 | refine mmS ?_))) (Asks.cons (holds_of_mem (by repeat (first | with_reducible exact mm0 | refine mmS ?_))) Asks.nil)))) (fcmpq_con (hxim1.mono (by decide)) (hxi.mono (by decide))) rfl ca29 ⟨rfl, rfl, rfl⟩ ?_
    rintro _ _ ⟨rfl, rfl⟩
    refine JL_lss rfl rfl ?_
    refine JL_split (fun h20 => ?_) (fun h20 => ?_)
    · refine JL_done_up 21 [] [_, _, _, _, _, _] rfl rfl (by simp only [nrmF]; rfl) rfl rfl ?_
      refine JC_true rfl ?_
      refine JC_seq ?_
      refine JC_region ?_
      refine JL_assign rfl ?_
      refine JL_done_up 21 [] [_, _, _, _, _, _] rfl rfl (by simp only [nrmF]; rfl) rfl rfl ?_
      refine JC_ret ?_
      refine JE_block_ret ?_
      refine JE_then_ret ?_
      refine JE_nextS_ret ?_
      refine JE_block_ret ?_
      refine JE_then_ret ?_
      refine JE_ret (vs := [_]) [] Tryz.results11 ⟨rfl, rfl⟩ ?_ ?_
      · rw [decide_eq_false (p := Falls l) (fun h => by
        have e := h (i - 1) (by omega)
        rw [show i - 1 + 1 = i from by omega] at e
        exact absurd (cmpQ_ge.2 e) (by omega))]; exact ⟨rfl, rfl⟩
      · exact all_nil
    · refine JL_done_up 21 [] [_, _, _, _, _, _] rfl rfl (by simp only [nrmF]; rfl) rfl rfl ?_
      refine JC_false rfl ?_
      refine JC_skip ?_
      refine JE_block_normal ?_
      refine JE_then ?_
      refine JC_region ?_
      refine JL_move rfl ?_
      refine JL_add_to rfl rfl (IntWalk.i64_in _ (by omega)) ?_
      refine JL_assign rfl ?_
      refine JL_nil_up 21 [] [_, _, _, _, _, _] rfl rfl (by simp only [nrmF]; rfl) rfl rfl ?_
      refine JE_nextS (i + 1) (by kernel_rfl) ?_ ?_ (by kernel_rfl) ?_
      · exact ⟨by omega, by omega, fun j hj => by
        by_cases h : j + 1 = i
        · have e : j = i - 1 := by omega
          subst e
          rw [show i - 1 + 1 = i from by omega]
          exact cmpQ_ge.1 (by omega)
        · exact hf j (by omega)⟩
      · first | omega | (dsimp only; omega)
      · exact subset_app subset_nil (ssS (ssS (ssS (ssS ss0))))
  · refine JL_done_up 21 [] [_, _] rfl rfl (by simp only [nrmF]; rfl) rfl rfl ?_
    refine JC_false rfl ?_
    refine JC_exit ?_
    refine JE_then_exit ?_
    refine JE_nextS_exit ?_
    refine JE_block_exit ?_
    refine JE_then ?_
    refine JC_seq ?_
    refine JC_region ?_
    refine JL_assign rfl ?_
    refine JL_done_up 21 [] [_, _] rfl rfl (by simp only [nrmF]; rfl) rfl rfl ?_
    refine JC_ret ?_
    refine JE_ret (vs := [_]) [] Tryz.results11 ⟨rfl, rfl⟩ ?_ ?_
    · rw [decide_eq_true (p := Falls l) (fun j hj => hf j (by omega))]; exact ⟨rfl, rfl⟩
    · exact all_nil

theorem icomp_con {adv adw : Option Addr} {cv cw : Nat} {V W : List Int} {ad3 : Option Addr} {c3 : Nat} {l : List Fi} (hl : ∀ x ∈ l, x.ok 4) (hn3 : l.length ≤ 1000000) :
    ConF Tryz.prog 9 [.slice adv V.length cv, .slice adw W.length cw, .slice ad3 l.length c3] [vCells adv (i64s V), vCells adw (i64s W), vCells ad3 (rcells l), vFis l]
      (fun v φo => v = .int .i64 (chkE V W l) ∧ φo = []) := by
  have _ := hn3
  refine ConF_of Tryz.func9 rfl 40 _ rfl rfl ?_
  intro w0
  refine JC_norm ⟨40, [], [_, _, _, _, _, _, _, _, _, _, _, _, _, _, _, _, _, _, _, _, _, _, _, _, _, _, _, _, _, _, _, _, _, _, _, _, _, _, _, _]⟩ [] [_, _, _, _] rfl rfl rfl ?_
  refine JC_seq ?_
  refine JC_region ?_
  refine JL_assign rfl ?_
  refine JL_done_up 40 [] [_, _, _, _] rfl rfl (by simp only [nrmF]; rfl) rfl rfl ?_
  refine JC_seq ?_
  refine JC_region ?_
  refine JL_move rfl ?_
  refine JL_move rfl ?_
  refine JL_callF' (Asks.cons (holds_of_mem (by repeat (first | with_reducible exact mm0 | refine mmS ?_))) (Asks.cons (holds_of_mem (by repeat (first | with_reducible exact mm0 | refine mmS ?_))) Asks.nil)) (ifit_con) rfl ca13 ⟨rfl, rfl, rfl⟩ ?_
  rintro _ _ ⟨ad14, c14, l14, rfl, hl14, rfl⟩
  have hf14 : l14.map (·.q) = fitL V W := hl14
  refine JL_move rfl ?_
  refine JL_extract rfl rfl ?_
  refine JL_extract rfl rfl ?_
  refine JL_assign rfl ?_
  refine JL_assign rfl ?_
  refine JL_done_up 40 [] [_, _, _, _, _, _] rfl rfl (by simp only [nrmF]; rfl) rfl rfl ?_
  refine JC_seq ?_
  refine JC_seq ?_
  refine JC_region ?_
  refine JL_move rfl ?_
  refine JL_neq rfl rfl ?_
  refine JL_split (fun h18 => ?_) (fun h18 => ?_)
  · refine JL_done_up 40 [] [_, _, _, _, _, _] rfl rfl (by simp only [nrmF]; rfl) rfl rfl ?_
    refine JC_true rfl ?_
    refine JC_seq ?_
    refine JC_region ?_
    refine JL_move rfl ?_
    refine JL_assign rfl ?_
    refine JL_done_up 40 [] [_, _, _, _, _, _] rfl rfl (by simp only [nrmF]; rfl) rfl rfl ?_
    refine JC_ret ?_
    refine JE_then_ret ?_
    refine JE_ret (vs := [_]) [] Tryz.results9 ⟨rfl, rfl⟩ ?_ ?_
    · rw [chkE_chk h18]; exact ⟨rfl, rfl⟩
    · exact all_nil
  · refine JL_done_up 40 [] [_, _, _, _, _, _] rfl rfl (by simp only [nrmF]; rfl) rfl rfl ?_
    refine JC_false rfl ?_
    refine JC_skip ?_
    refine JE_then ?_
    refine JC_seq ?_
    refine JC_seq ?_
    have hz : chk V W = 0 := Classical.byContradiction h18
    obtain ⟨hn, hvw, hok⟩ := chk_zero hz
    have hnf := fes_flen hz hf14
    refine JC_region ?_
    refine JL_move rfl ?_
    refine JL_len sl23 rfl ?_
    refine JL_move rfl ?_
    refine JL_len sl23 rfl ?_
    refine JL_neq rfl rfl ?_
    refine JL_split (fun h24 => ?_) (fun h24 => ?_)
    · refine JL_done_up 40 [] [_, _, _, _, _, _] rfl rfl (by simp only [nrmF]; rfl) rfl rfl ?_
      refine JC_true rfl ?_
      refine JC_seq ?_
      refine JC_region ?_
      refine JL_assign rfl ?_
      refine JL_done_up 40 [] [_, _, _, _, _, _] rfl rfl (by simp only [nrmF]; rfl) rfl rfl ?_
      refine JC_ret ?_
      refine JE_then_ret ?_
      refine JE_ret (vs := [_]) [] Tryz.results9 ⟨rfl, rfl⟩ ?_ ?_
      · rw [chkE_len hz (by omega)]; exact ⟨rfl, rfl⟩
      · exact all_nil
    · refine JL_done_up 40 [] [_, _, _, _, _, _] rfl rfl (by simp only [nrmF]; rfl) rfl rfl ?_
      refine JC_false rfl ?_
      refine JC_skip ?_
      refine JE_then ?_
      refine JC_seq ?_
      refine JC_seq ?_
      refine JC_region ?_
      refine JL_move rfl ?_
      refine JL_len sl23 rfl ?_
      refine JL_move rfl ?_
      refine JL_done_up 40 [] [_, _, _, _, _, _] rfl rfl (by simp only [nrmF]; rfl) rfl rfl ?_
      refine JC_block ?_
      refine JC_loopS ((Nat)) (fun (i : Nat) => i ≤ l.length ∧ ∀ j, j < i → lq l j = (fitL V W).getD j 0) (fun (i : Nat) => l.length - i) (fun u (i : Nat) => [none, none, none, none, none, none, some (u 6), none, none, some (u 9), some (u 10), none, none, none, none, none, none, none, none, none, none, none, none, none, none, none, none, some (.int .i64 (i : Nat)), some (u 28), some (u 29), some (u 30), some (u 31), some (u 32), some (u 33), some (u 34), some (u 35), some (u 36), some (u 37), some (u 38), some (u 39)]) (fun (i : Nat) => []) (fun (i : Nat) => []) (0) (by kernel_rfl) ?_ (by kernel_rfl) ?_ ?_
      · exact ⟨Nat.zero_le _, fun j hj => absurd hj (Nat.not_lt_zero j)⟩
      · exact subset_nil
      intro u i hC
      obtain ⟨hi, he⟩ := hC
      refine JC_norm ⟨40, [], [_, _, _, _, _, _, _, _, _, _, _, _, _, _, _, _, _, _, _, _, _, _, _, _, _, _, _, _, _, _, _, _, _, _, _, _, _, _, _, _]⟩ [] [_, _, _, _, _, _] rfl rfl rfl ?_
      refine JC_seq ?_
      refine JC_region ?_
      refine JL_lss rfl rfl ?_
      refine JL_split (fun h28 => ?_) (fun h28 => ?_)
      · refine JL_done_up 40 [] [_, _, _, _, _, _] rfl rfl (by simp only [nrmF]; rfl) rfl rfl ?_
        refine JC_seq ?_
        refine JC_true rfl ?_
        refine JC_skip ?_
        refine JE_then ?_
        refine JC_seq ?_
        refine JC_block ?_
        refine JC_seq ?_
        have hxi := hl _ (fi_mem (l := l) (j := i) (by omega))
        refine JC_fisGet (f := false) (l := l) (l.getD i dI) (by repeat (first | with_reducible exact mm0 | refine mmS ?_)) (fi_mem (by omega)) ?_
        refine JC_fesGet (f := true) (l := l14) (l14.getD i dF) (by repeat (first | with_reducible exact mm0 | refine mmS ?_)) (getD_mem (by omega)) ?_
        refine JC_region ?_
        refine JL_move rfl ?_
        refine JL_indexAddr i sl23 rfl rfl rfl (by omega) (by first | exact Reads.view (by repeat (first | with_reducible exact mm0 | refine mmS ?_))) (by rw [rcells_length]; omega) ?_
        refine JL_loadEA (vs := [_, _, _]) ty30 (Nat.zero_lt_succ _) rfl (by first | exact Reads.view (by repeat (first | with_reducible exact mm0 | refine mmS ?_))) (rcells_getA (by omega)) ?_
        refine JL_alloc z30 (fun b10 => ?_)
        refine JL_assign rfl ?_
        refine JL_store (vs := [_, _, _]) 0 ty30 rfl rfl rfl (AllOne.cons rfl (AllOne.cons rfl (AllOne.cons rfl AllOne.nil))) rfl (Nat.le_of_ble_eq_true rfl) ?_
        refine JL_done_up 40 [box _ _ [_, _, _]] [_, _, _, _, _, _, _, _, _, _] rfl rfl (by simp only [nrmF]; rfl) rfl rfl ?_
        refine JC_seq ?_
        refine JC_drawT mixed 5 [spV 32 [] _, spV 33 [] _, spV 34 [] _, spV 35 [1, 2] _, spV 36 [3] _] ⟨OblS_V (fun vals ex ψ => (by
            refine JL_normQ ⟨40, [(32, _), (33, _), (34, _), (35, _), (36, _)], _⟩ (_ :: _ :: _ :: _ :: _ :: _ :: _ :: _ :: _ :: _ :: ψ) rfl rfl ?_
            refine JL_loadA (vs := [_, _, _]) 0 ty30 rfl rfl ⟨rfl, rfl, rfl, trivial⟩ ?_
            exact JL_nil (JE_stepV rfl ss0))), OblS_V (fun vals ex ψ => (by
            refine JL_normQ ⟨40, [(32, _), (33, _), (34, _), (35, _), (36, _)], _⟩ (_ :: _ :: _ :: _ :: _ :: _ :: _ :: _ :: _ :: _ :: ψ) rfl rfl ?_
            refine JL_move rfl ?_
            exact JL_nil (JE_stepV rfl ss0))), OblS_V (fun vals ex ψ => (by
            refine JL_normQ ⟨40, [(32, _), (33, _), (34, _), (35, _), (36, _)], _⟩ (_ :: _ :: _ :: _ :: _ :: _ :: _ :: _ :: _ :: _ :: ψ) rfl rfl ?_
            refine JL_move rfl ?_
            exact JL_nil (JE_stepV rfl ss0))), OblS_V (fun vals ex ψ => (by
            refine JL_normQ ⟨40, [(32, _), (33, _), (34, _), (35, _), (36, _)], _⟩ (_ :: _ :: _ :: _ :: _ :: _ :: _ :: _ :: _ :: _ :: ψ) rfl rfl ?_
            refine JL_indexAddr i sl23 rfl rfl rfl (by omega) (by first | exact Reads.view (by repeat (first | with_reducible exact mm0 | refine mmS ?_))) (by rw [fcells_length]; omega) ?_
            exact JL_nil (JE_stepV rfl ss0))), OblS_V (fun vals ex ψ => (by
            refine JL_normQ ⟨40, [(32, _), (33, _), (34, _), (35, _), (36, _)], _⟩ (_ :: _ :: _ :: _ :: _ :: _ :: _ :: _ :: _ :: _ :: ψ) rfl rfl ?_
            refine JL_loadEA (vs := [_, _, _]) ty30 (Nat.zero_lt_succ _) rfl (by first | exact Reads.view (by repeat (first | with_reducible exact mm0 | refine mmS ?_))) (fcells_getA (by omega)) ?_
            exact JL_nil (JE_stepV rfl ss0))), trivial⟩ (by kernel_rfl) (fun vals bs => ?_)
        refine JL_normL [_, _] ⟨40, [(32, _), (33, _), (34, _), (35, _), (36, _)], _⟩ [box _ _ [_, _, _]] [_, _, _, _, _, _, _, _, _, _] rfl rfl rfl rfl ?_
        refine JL_callF' (Asks.cons (holds_of_mem (by repeat (first | with_reducible exact mm0 | refine mmS ?_))) (Asks.cons (holds_of_mem (by repeat (first | with_reducible exact mm0 | refine mmS ?_))) (Asks.cons (holds_of_mem (by repeat (first | with_reducible exact mm0 | refine mmS ?_))) (Asks.cons (holds_of_mem (by repeat (first | with_reducible exact mm0 | refine mmS ?_))) Asks.nil)))) (fcmpq_con (hxi.mono (by decide)) (FIn.some ((fes_fqs hf14 i).mono (by decide)))) rfl ca29 ⟨rfl, rfl, rfl⟩ ?_
        rintro _ _ ⟨rfl, rfl⟩
        refine JL_neq rfl rfl ?_
        refine JL_split (fun h38 => ?_) (fun h38 => ?_)
        · refine JL_done_up 40 [box _ _ [_, _, _]] [_, _, _, _, _, _, _, _, _, _] rfl rfl (by simp only [nrmF]; rfl) rfl rfl ?_
          refine JC_true rfl ?_
          refine JC_seq ?_
          refine JC_region ?_
          refine JL_assign rfl ?_
          refine JL_done_up 40 [box _ _ [_, _, _]] [_, _, _, _, _, _, _, _, _, _] rfl rfl (by simp only [nrmF]; rfl) rfl rfl ?_
          refine JC_ret ?_
          refine JE_block_ret ?_
          refine JE_then_ret ?_
          refine JE_nextS_ret ?_
          refine JE_block_ret ?_
          refine JE_then_ret ?_
          refine JE_ret (vs := [_]) [] Tryz.results9 ⟨rfl, rfl⟩ ?_ ?_
          · rw [chkE_ne hz (by omega) (i := i) (by omega) (fun e => h38 (cmpQ_zero.2 (by rw [fes_fq hf14]; exact e)))]; exact ⟨rfl, rfl⟩
          · exact all_nil
        · refine JL_done_up 40 [box _ _ [_, _, _]] [_, _, _, _, _, _, _, _, _, _] rfl rfl (by simp only [nrmF]; rfl) rfl rfl ?_
          refine JC_false rfl ?_
          refine JC_skip ?_
          refine JE_block_normal ?_
          refine JE_then ?_
          refine JC_region ?_
          refine JL_add_to rfl rfl (IntWalk.i64_in _ (by omega)) ?_
          refine JL_move rfl ?_
          refine JL_nil_up 40 [box _ _ [_, _, _]] [_, _, _, _, _, _, _, _, _, _] rfl rfl (by simp only [nrmF]; rfl) rfl rfl ?_
          refine JE_dropAt 0 ?_
          refine JE_norm _ [] [_, _, _, _, _, _, _, _, _, _] rfl rfl rfl ?_
          refine JE_nextS (i + 1) (by kernel_rfl) ?_ ?_ (by kernel_rfl) ?_
          · exact ⟨by omega, fun j hj => by
            by_cases h : j = i
            · subst h
              have e := cmpQ_zero.1 (Classical.byContradiction h38)
              rw [fes_fq hf14] at e
              exact e
            · exact he j (by omega)⟩
          · first | omega | (dsimp only; omega)
          · exact subset_app subset_nil (ssS (ssS (ssS (ssS ss0))))
      · refine JL_done_up 40 [] [_, _, _, _, _, _] rfl rfl (by simp only [nrmF]; rfl) rfl rfl ?_
        refine JC_seq ?_
        refine JC_false rfl ?_
        refine JC_exit ?_
        refine JE_then_exit ?_
        refine JE_nextS_exit ?_
        refine JE_block_exit ?_
        refine JE_then ?_
        refine JC_seq ?_
        refine JC_region ?_
        refine JL_assign rfl ?_
        refine JL_done_up 40 [] [_, _, _, _, _, _] rfl rfl (by simp only [nrmF]; rfl) rfl rfl ?_
        refine JC_ret ?_
        refine JE_ret (vs := [_]) [] Tryz.results9 ⟨rfl, rfl⟩ ?_ ?_
        · rw [chkE_eq hz (by omega) (fun j hj => he j (by omega))]; exact ⟨rfl, rfl⟩
        · exact all_nil

theorem icostF_con {adv adw : Option Addr} {cv cw : Nat} {V W : List Int} {ad3 : Option Addr} {c3 : Nat} {l : List Fe} (hz : chk V W = 0) (hl : l.map (·.q) = fitL V W) : ConF Tryz.prog 6 [.slice adv V.length cv, .slice adw W.length cw, .slice ad3 l.length c3] [vCells adv (i64s V), vCells adw (i64s W), vCells ad3 (fcells l), vFes l] (FOE (some (cst V W (fun k => (fitL V W).getD k 0) V.length)) 0) := by
  have hn := (chk_zero hz).1
  have hlen := fes_flen hz hl
  have h := icost_con (adv := adv) (cv := cv) (adw := adw) (cw := cw) (V := V) (W := W) (ad3 := ad3) (c3 := c3) (l := l.map Fe.fi) (fi_all hl) (by rw [List.length_map]; omega)
  rw [List.length_map] at h
  rw [costO_ok (by rw [List.length_map]; exact costE_ok hz hlen), costV_fi hz hl, costE_ok hz hlen] at h
  refine ConF.views h fun w hw => ?_
  have h1 := hw (vCells ad3 (fcells l)) (by simp)
  have h2 := hw (vFes l) (by simp)
  intro p hp
  simp only [List.mem_cons, List.not_mem_nil, or_false] at hp
  rcases hp with rfl | rfl | rfl | rfl
  · exact hw _ (by simp)
  · exact hw _ (by simp)
  · rw [fcells_fi]; exact h1
  · exact vFes_fi h2

theorem ifallingF_con {V W : List Int} {ad3 : Option Addr} {c3 : Nat} {l : List Fe} (hz : chk V W = 0) (hl : l.map (·.q) = fitL V W) : ConF Tryz.prog 11 [.slice ad3 l.length c3] [vCells ad3 (fcells l), vFes l] (fun v φo => v = .bool true ∧ φo = []) := by
  have hn := (chk_zero hz).1
  have hlen := fes_flen hz hl
  have h := ifalling_con (ad3 := ad3) (c3 := c3) (l := l.map Fe.fi) (fi_all hl) (by rw [List.length_map]; omega)
  rw [List.length_map] at h
  rw [decide_eq_true (fit_Falls hz hl)] at h
  refine ConF.views h fun w hw => ?_
  have h1 := hw (vCells ad3 (fcells l)) (by simp)
  have h2 := hw (vFes l) (by simp)
  intro p hp
  simp only [List.mem_cons, List.not_mem_nil, or_false] at hp
  rcases hp with rfl | rfl
  · rw [fcells_fi]; exact h1
  · exact vFes_fi h2

theorem icompF_con {adv adw : Option Addr} {cv cw : Nat} {V W : List Int} {ad3 : Option Addr} {c3 : Nat} {l : List Fe} (hz : chk V W = 0) (hl : l.map (·.q) = fitL V W) : ConF Tryz.prog 9 [.slice adv V.length cv, .slice adw W.length cw, .slice ad3 l.length c3] [vCells adv (i64s V), vCells adw (i64s W), vCells ad3 (fcells l), vFes l] (fun v φo => v = .int .i64 0 ∧ φo = []) := by
  have hn := (chk_zero hz).1
  have hlen := fes_flen hz hl
  have h := icomp_con (adv := adv) (cv := cv) (adw := adw) (cw := cw) (V := V) (W := W) (ad3 := ad3) (c3 := c3) (l := l.map Fe.fi) (fi_all hl) (by rw [List.length_map]; omega)
  rw [List.length_map] at h
  rw [chkE_eq hz (by rw [List.length_map]; exact hlen) (fun i hi => lq_fi hl (by omega))] at h
  refine ConF.views h fun w hw => ?_
  have h1 := hw (vCells ad3 (fcells l)) (by simp)
  have h2 := hw (vFes l) (by simp)
  intro p hp
  simp only [List.mem_cons, List.not_mem_nil, or_false] at hp
  rcases hp with rfl | rfl | rfl | rfl
  · exact hw _ (by simp)
  · exact hw _ (by simp)
  · rw [fcells_fi]; exact h1
  · exact vFes_fi h2

end Go.Fw.K
