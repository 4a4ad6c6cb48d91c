/- Walks through functions of the given program: each meets its contract. (Printed by a program of this repo.) -/
import Derived.Test.YthaepkealhkkmaaQ9
import Derived.Test.YthaepkealhkkmaaCcP
import Derived.Test.YthaepkealhkkmaaProg
namespace Go.Fw.Q10
open Go Go.RowKit Go.Proofs Go.Nat9 Go.Fw
attribute [local irreducible] JC JL JE
theorem ca45 : callable Try.prog 45 = true := by kernel_rfl
theorem ca57 : callable Try.prog 57 = true := by kernel_rfl
theorem ca58 : callable Try.prog 58 = true := by kernel_rfl
theorem ca59 : callable Try.prog 59 = true := by kernel_rfl
theorem ca60 : callable Try.prog 60 = true := by kernel_rfl
theorem ca62 : callable Try.prog 62 = true := by kernel_rfl
theorem ca63 : callable Try.prog 63 = true := by kernel_rfl
theorem ca67 : callable Try.prog 67 = true := by kernel_rfl
theorem ca68 : callable Try.prog 68 = true := by kernel_rfl
theorem ca69 : callable Try.prog 69 = true := by kernel_rfl
theorem fo41_0 : fOf Try.prog 41 0 = some 0 := by kernel_rfl
theorem fo41_1 : fOf Try.prog 41 1 = some 1 := by kernel_rfl
theorem fo48_0 : fOf Try.prog 48 0 = some 0 := by kernel_rfl
theorem fo48_1 : fOf Try.prog 48 1 = some 1 := by kernel_rfl
theorem sl28 : slOf Try.prog 28 = some (3, 1, 8, [.int .i64 0]) := by kernel_rfl
theorem sl39 : slOf Try.prog 39 = some (48, 2, 16, [.int .i64 0, .int .i64 0]) := by kernel_rfl
theorem ty28 : tyOf Try.prog 28 = some (false, 1) := by kernel_rfl
theorem ty3 : tyOf Try.prog 3 = some (false, 1) := by kernel_rfl
theorem ty39 : tyOf Try.prog 39 = some (false, 1) := by kernel_rfl
theorem ty41 : tyOf Try.prog 41 = some (true, 2) := by kernel_rfl
theorem ty48 : tyOf Try.prog 48 = some (true, 2) := by kernel_rfl
theorem z28 : zeroOf Try.prog 28 = some [.slice none 0 0] := by kernel_rfl
theorem z48 : zeroOf Try.prog 48 = some [.int .i64 0, .int .i64 0] := by kernel_rfl
end Go.Fw.Q10
namespace Go.Fw.K
open Go Go.RowKit Go.Proofs Go.Nat9 Go.Fw Go.Fw.Q10
attribute [local irreducible] JC JL JE

set_option maxHeartbeats 1000000 in
theorem asc_con {ad : Option Addr} {c : Nat} {L : List Int} {most : Int} (hln : L.length ≤ 1000000) :
    ConF Try.prog 58 [.slice ad L.length c, .int .i64 most] [vCells ad (i64s L)]
      (fun v φo => v = .bool (decide (ascC L most)) ∧ φo = []) := by
  refine ConF_of Try.func58 rfl 38 _ rfl rfl ?_
  intro w0
  refine JC_norm ⟨38, [], [_, _, _, _, _, _, _, _, _, _, _, _, _, _, _, _, _, _, _, _, _, _, _, _, _, _, _, _, _, _, _, _, _, _, _, _, _, _]⟩ [] [_] rfl rfl rfl ?_
  refine JC_seq ?_
  refine JC_region ?_
  refine JL_assign rfl ?_
  refine JL_done_up 38 [] [_] rfl rfl (by simp only [nrmF]; rfl) rfl rfl ?_
  refine JC_seq ?_
  refine JC_seq ?_
  refine JC_region ?_
  refine JL_move rfl ?_
  refine JL_len sl28 rfl ?_
  refine JL_move rfl ?_
  refine JL_done_up 38 [] [_] rfl rfl (by simp only [nrmF]; rfl) rfl rfl ?_
  refine JC_block ?_
  refine JC_loopS ((Nat)) (fun (i : Nat) => i ≤ L.length ∧ (∀ j, j < i → upAt L 1 most j)) (fun (i : Nat) => L.length - i) (fun u (i : Nat) => [none, none, none, none, some (u 4), some (u 5), some (u 6), none, none, some (.int .i64 (i : Nat)), some (u 10), some (u 11), some (u 12), some (u 13), some (u 14), some (u 15), some (u 16), some (u 17), some (u 18), some (u 19), some (u 20), some (u 21), some (u 22), some (u 23), some (u 24), some (u 25), some (u 26), some (u 27), some (u 28), some (u 29), some (u 30), some (u 31), some (u 32), some (u 33), some (u 34), none, none, none]) (fun (i : Nat) => []) (fun (i : Nat) => []) (0) (by kernel_rfl) ?_ (by kernel_rfl) ?_ ?_
  · exact ⟨Nat.zero_le _, fun j hj => absurd hj (Nat.not_lt_zero _)⟩
  · exact subset_nil
  intro u i hC
  obtain ⟨hi, hj⟩ := hC
  refine JC_norm ⟨38, [], [_, _, _, _, _, _, _, _, _, _, _, _, _, _, _, _, _, _, _, _, _, _, _, _, _, _, _, _, _, _, _, _, _, _, _, _, _, _]⟩ [] [_] rfl rfl rfl ?_
  refine JC_seq ?_
  refine JC_region ?_
  refine JL_lss rfl rfl ?_
  refine JL_split (fun h10 => ?_) (fun h10 => ?_)
  · refine JL_done_up 38 [] [_] rfl rfl (by simp only [nrmF]; rfl) rfl rfl ?_
    refine JC_seq ?_
    refine JC_true rfl ?_
    refine JC_skip ?_
    refine JE_then ?_
    refine JC_seq ?_
    refine JC_block ?_
    refine JC_seq ?_
    refine JC_region ?_
    refine JL_move rfl ?_
    refine JL_idx i sl28 rfl rfl rfl (by omega) (by first | exact Reads.view (by repeat (first | with_reducible exact mm0 | refine mmS ?_))) (by first | (rw [u32s_length]; omega) | (rw [i64s_length]; omega)) ?_
    refine JL_loadE ty3 rfl (by first | exact Reads.view (by repeat (first | with_reducible exact mm0 | refine mmS ?_))) (i64s_get (by omega)) ?_
    refine JL_assign rfl ?_
    refine JL_assign rfl ?_
    refine JL_done_up 38 [] [_] rfl rfl (by simp only [nrmF]; rfl) rfl rfl ?_
    refine JC_seq ?_
    rcases up4 L 1 most i with hA | hA | hA | hA | hA
    · refine JC_region ?_
      refine JL_move rfl ?_
      refine JL_lss rfl rfl ?_
      rw [decide_eq_true (p := L.getD i 0 < 1) (by omega)]
      refine JL_move rfl ?_
      refine JL_guard_no rfl rfl ?_
      refine JL_guard_no rfl rfl ?_
      refine JL_guard_no rfl rfl ?_
      refine JL_pick_t rfl rfl ?_
      refine JL_move rfl ?_
      refine JL_guard_no rfl rfl ?_
      refine JL_guard_no rfl rfl ?_
      refine JL_guard_no rfl rfl ?_
      refine JL_guard_un rfl rfl ?_
      refine JL_guard_un rfl rfl ?_
      refine JL_guard_un rfl rfl ?_
      refine JL_guard_un rfl rfl ?_
      refine JL_guard_un rfl rfl ?_
      refine JL_guard_un rfl rfl ?_
      refine JL_guard_un rfl rfl ?_
      refine JL_guard_no rfl rfl ?_
      refine JL_pick_t rfl rfl ?_
      refine JL_done_up 38 [] [_] rfl rfl (by simp only [nrmF]; rfl) rfl rfl ?_
      refine JC_true rfl ?_
      refine JC_seq ?_
      refine JC_region ?_
      refine JL_assign rfl ?_
      refine JL_done_up 38 [] [_] rfl rfl (by simp only [nrmF]; rfl) rfl rfl ?_
      refine JC_ret ?_
      refine JE_block_ret ?_
      refine JE_then_ret ?_
      refine JE_nextS_ret ?_
      refine JE_block_ret ?_
      refine JE_then_ret ?_
      refine JE_ret (vs := [_]) [] Try.results58 ⟨rfl, rfl⟩ ?_ ?_
      · rw [ascC_no (i := i) (by omega) (fun h => by have := h.1; have := h.2; omega)]; exact ⟨rfl, rfl⟩
      · exact all_nil
    · refine JC_region ?_
      refine JL_move rfl ?_
      refine JL_lss rfl rfl ?_
      rw [decide_eq_false (p := L.getD i 0 < 1) (by omega)]
      refine JL_move rfl ?_
      refine JL_guard_yes rfl rfl ?_
      refine JL_move rfl ?_
      refine JL_guard_yes rfl rfl ?_
      refine JL_move rfl ?_
      refine JL_guard_yes rfl rfl ?_
      refine JL_gtr rfl rfl ?_
      rw [decide_eq_true (p := most < L.getD i 0) (by omega)]
      refine JL_pick_f rfl rfl ?_
      refine JL_move rfl ?_
      refine JL_guard_no rfl rfl ?_
      refine JL_guard_no rfl rfl ?_
      refine JL_guard_no rfl rfl ?_
      refine JL_guard_un rfl rfl ?_
      refine JL_guard_un rfl rfl ?_
      refine JL_guard_un rfl rfl ?_
      refine JL_guard_un rfl rfl ?_
      refine JL_guard_un rfl rfl ?_
      refine JL_guard_un rfl rfl ?_
      refine JL_guard_un rfl rfl ?_
      refine JL_guard_no rfl rfl ?_
      refine JL_pick_t rfl rfl ?_
      refine JL_done_up 38 [] [_] rfl rfl (by simp only [nrmF]; rfl) rfl rfl ?_
      refine JC_true rfl ?_
      refine JC_seq ?_
      refine JC_region ?_
      refine JL_assign rfl ?_
      refine JL_done_up 38 [] [_] rfl rfl (by simp only [nrmF]; rfl) rfl rfl ?_
      refine JC_ret ?_
      refine JE_block_ret ?_
      refine JE_then_ret ?_
      refine JE_nextS_ret ?_
      refine JE_block_ret ?_
      refine JE_then_ret ?_
      refine JE_ret (vs := [_]) [] Try.results58 ⟨rfl, rfl⟩ ?_ ?_
      · rw [ascC_no (i := i) (by omega) (fun h => by have := h.1; have := h.2; omega)]; exact ⟨rfl, rfl⟩
      · exact all_nil
    · refine JC_region ?_
      refine JL_move rfl ?_
      refine JL_lss rfl rfl ?_
      rw [decide_eq_false (p := L.getD i 0 < 1) (by omega)]
      refine JL_move rfl ?_
      refine JL_guard_yes rfl rfl ?_
      refine JL_move rfl ?_
      refine JL_guard_yes rfl rfl ?_
      refine JL_move rfl ?_
      refine JL_guard_yes rfl rfl ?_
      refine JL_gtr rfl rfl ?_
      rw [decide_eq_false (p := most < L.getD i 0) (by omega)]
      refine JL_pick_f rfl rfl ?_
      refine JL_move rfl ?_
      refine JL_guard_yes rfl rfl ?_
      refine JL_move rfl ?_
      refine JL_guard_yes rfl rfl ?_
      refine JL_gtr rfl rfl ?_
      rw [decide_eq_false (p := (0 : Int) < (i : Int)) (by omega)]
      refine JL_guard_yes rfl rfl ?_
      refine JL_move rfl ?_
      refine JL_guard_no rfl rfl ?_
      refine JL_guard_no rfl rfl ?_
      refine JL_guard_no rfl rfl ?_
      refine JL_guard_no rfl rfl ?_
      refine JL_guard_no rfl rfl ?_
      refine JL_guard_no rfl rfl ?_
      refine JL_guard_no rfl rfl ?_
      refine JL_guard_yes rfl rfl ?_
      refine JL_pick_f rfl rfl ?_
      refine JL_pick_f rfl rfl ?_
      refine JL_done_up 38 [] [_] rfl rfl (by simp only [nrmF]; rfl) rfl rfl ?_
      refine JC_false rfl ?_
      refine JC_skip ?_
      refine JE_block_normal ?_
      refine JE_then ?_
      refine JC_region ?_
      refine JL_add_to rfl rfl (IntWalk.i64_in _ (by omega)) ?_
      refine JL_move rfl ?_
      refine JL_nil_up 38 [] [_] rfl rfl (by simp only [nrmF]; rfl) rfl rfl ?_
      refine JE_nextS (i + 1) (by kernel_rfl) ?_ ?_ (by kernel_rfl) ?_
      · exact ⟨by omega, upNext hj ⟨by omega, by omega⟩⟩
      · first | omega | (dsimp only; omega)
      · exact subset_app subset_nil ss0
    · refine JC_region ?_
      refine JL_move rfl ?_
      refine JL_lss rfl rfl ?_
      rw [decide_eq_false (p := L.getD i 0 < 1) (by omega)]
      refine JL_move rfl ?_
      refine JL_guard_yes rfl rfl ?_
      refine JL_move rfl ?_
      refine JL_guard_yes rfl rfl ?_
      refine JL_move rfl ?_
      refine JL_guard_yes rfl rfl ?_
      refine JL_gtr rfl rfl ?_
      rw [decide_eq_false (p := most < L.getD i 0) (by omega)]
      refine JL_pick_f rfl rfl ?_
      refine JL_move rfl ?_
      refine JL_guard_yes rfl rfl ?_
      refine JL_move rfl ?_
      refine JL_guard_yes rfl rfl ?_
      refine JL_gtr rfl rfl ?_
      rw [decide_eq_true (p := (0 : Int) < (i : Int)) (by omega)]
      refine JL_guard_yes rfl rfl ?_
      refine JL_move rfl ?_
      refine JL_guard_yes rfl rfl ?_
      refine JL_move rfl ?_
      refine JL_guard_yes rfl rfl ?_
      refine JL_move rfl ?_
      refine JL_guard_yes rfl rfl ?_
      refine JL_move rfl ?_
      refine JL_guard_yes rfl rfl ?_
      refine JL_sub_to rfl rfl (IntWalk.i64_in _ (by omega)) ?_
      refine JL_guard_yes rfl rfl ?_
      refine JL_idx (i - 1) sl28 rfl rfl (by omega) (by omega) (by first | exact Reads.view (by repeat (first | with_reducible exact mm0 | refine mmS ?_))) (by first | (rw [u32s_length]; omega) | (rw [i64s_length]; omega)) ?_
      refine JL_guard_yes rfl rfl ?_
      refine JL_loadE ty3 rfl (by first | exact Reads.view (by repeat (first | with_reducible exact mm0 | refine mmS ?_))) (i64s_get (by omega)) ?_
      refine JL_guard_yes rfl rfl ?_
      refine JL_leq rfl rfl ?_
      rw [decide_eq_true (p := L.getD i 0 ≤ L.getD (i - 1) 0) (by omega)]
      refine JL_guard_yes rfl rfl ?_
      refine JL_pick_t rfl rfl ?_
      refine JL_pick_f rfl rfl ?_
      refine JL_done_up 38 [] [_] rfl rfl (by simp only [nrmF]; rfl) rfl rfl ?_
      refine JC_true rfl ?_
      refine JC_seq ?_
      refine JC_region ?_
      refine JL_assign rfl ?_
      refine JL_done_up 38 [] [_] rfl rfl (by simp only [nrmF]; rfl) rfl rfl ?_
      refine JC_ret ?_
      refine JE_block_ret ?_
      refine JE_then_ret ?_
      refine JE_nextS_ret ?_
      refine JE_block_ret ?_
      refine JE_then_ret ?_
      refine JE_ret (vs := [_]) [] Try.results58 ⟨rfl, rfl⟩ ?_ ?_
      · rw [ascC_no (i := i) (by omega) (fun h => by have := h.1; have := h.2; omega)]; exact ⟨rfl, rfl⟩
      · exact all_nil
    · refine JC_region ?_
      refine JL_move rfl ?_
      refine JL_lss rfl rfl ?_
      rw [decide_eq_false (p := L.getD i 0 < 1) (by omega)]
      refine JL_move rfl ?_
      refine JL_guard_yes rfl rfl ?_
      refine JL_move rfl ?_
      refine JL_guard_yes rfl rfl ?_
      refine JL_move rfl ?_
      refine JL_guard_yes rfl rfl ?_
      refine JL_gtr rfl rfl ?_
      rw [decide_eq_false (p := most < L.getD i 0) (by omega)]
      refine JL_pick_f rfl rfl ?_
      refine JL_move rfl ?_
      refine JL_guard_yes rfl rfl ?_
      refine JL_move rfl ?_
      refine JL_guard_yes rfl rfl ?_
      refine JL_gtr rfl rfl ?_
      rw [decide_eq_true (p := (0 : Int) < (i : Int)) (by omega)]
      refine JL_guard_yes rfl rfl ?_
      refine JL_move rfl ?_
      refine JL_guard_yes rfl rfl ?_
      refine JL_move rfl ?_
      refine JL_guard_yes rfl rfl ?_
      refine JL_move rfl ?_
      refine JL_guard_yes rfl rfl ?_
      refine JL_move rfl ?_
      refine JL_guard_yes rfl rfl ?_
      refine JL_sub_to rfl rfl (IntWalk.i64_in _ (by omega)) ?_
      refine JL_guard_yes rfl rfl ?_
      refine JL_idx (i - 1) sl28 rfl rfl (by omega) (by omega) (by first | exact Reads.view (by repeat (first | with_reducible exact mm0 | refine mmS ?_))) (by first | (rw [u32s_length]; omega) | (rw [i64s_length]; omega)) ?_
      refine JL_guard_yes rfl rfl ?_
      refine JL_loadE ty3 rfl (by first | exact Reads.view (by repeat (first | with_reducible exact mm0 | refine mmS ?_))) (i64s_get (by omega)) ?_
      refine JL_guard_yes rfl rfl ?_
      refine JL_leq rfl rfl ?_
      rw [decide_eq_false (p := L.getD i 0 ≤ L.getD (i - 1) 0) (by omega)]
      refine JL_guard_yes rfl rfl ?_
      refine JL_pick_t rfl rfl ?_
      refine JL_pick_f rfl rfl ?_
      refine JL_done_up 38 [] [_] rfl rfl (by simp only [nrmF]; rfl) rfl rfl ?_
      refine JC_false rfl ?_
      refine JC_skip ?_
      refine JE_block_normal ?_
      refine JE_then ?_
      refine JC_region ?_
      refine JL_add_to rfl rfl (IntWalk.i64_in _ (by omega)) ?_
      refine JL_move rfl ?_
      refine JL_nil_up 38 [] [_] rfl rfl (by simp only [nrmF]; rfl) rfl rfl ?_
      refine JE_nextS (i + 1) (by kernel_rfl) ?_ ?_ (by kernel_rfl) ?_
      · exact ⟨by omega, upNext hj ⟨by omega, by omega⟩⟩
      · first | omega | (dsimp only; omega)
      · exact subset_app subset_nil ss0
  · refine JL_done_up 38 [] [_] rfl rfl (by simp only [nrmF]; rfl) rfl rfl ?_
    refine JC_seq ?_
    refine JC_false rfl ?_
    refine JC_exit ?_
    refine JE_then_exit ?_
    refine JE_nextS_exit ?_
    refine JE_block_exit ?_
    refine JE_then ?_
    refine JC_seq ?_
    refine JC_region ?_
    refine JL_move rfl ?_
    refine JL_len sl28 rfl ?_
    refine JL_leq rfl rfl ?_
    refine JL_assign rfl ?_
    refine JL_done_up 38 [] [_] rfl rfl (by simp only [nrmF]; rfl) rfl rfl ?_
    refine JC_ret ?_
    refine JE_ret (vs := [_]) [] Try.results58 ⟨rfl, rfl⟩ ?_ ?_
    · rw [show decide (((L.length : Nat) : Int) ≤ 64) = decide (ascC L most) from decide_eq_decide.2 ⟨fun h => ⟨fun j hj2 => hj j (by omega), by omega⟩, fun h => by have := h.2; omega⟩]; exact ⟨rfl, rfl⟩
    · exact all_nil

theorem keys_con {ad1 ad2 : Option Addr} {c1 c2 : Nat} {E : List Pr} {R : List Int} (hE : E.length ≤ 1000000) :
    ConF Try.prog 59 [.agg #[.slice ad1 E.length c1, .slice ad2 R.length c2]] [vCells ad1 (pcells E), vCells ad2 (i64s R)]
      (III (keysL E)) := by
  refine ConF_of Try.func59 rfl 20 _ rfl rfl ?_
  intro w0
  refine JC_norm ⟨20, [], [_, _, _, _, _, _, _, _, _, _, _, _, _, _, _, _, _, _, _, _]⟩ [] [_, _] rfl rfl rfl ?_
  refine JC_seq ?_
  refine JC_region ?_
  refine JL_box rfl rfl (fun b1 => ?_)
  refine JL_assign rfl ?_
  refine JL_done_up 20 [box _ _ [_, _]] [_, _] rfl rfl (by simp only [nrmF]; rfl) rfl rfl ?_
  refine JC_seq ?_
  refine JC_region ?_
  refine JL_assign rfl ?_
  refine JL_done_up 20 [box _ _ [_, _]] [_, _] rfl rfl (by simp only [nrmF]; rfl) rfl rfl ?_
  refine JC_seq ?_
  refine JC_seq ?_
  refine JC_region ?_
  refine JL_fieldAddr fo41_0 rfl ?_
  refine JL_load 0 ty39 rfl rfl rfl ?_
  refine JL_len sl39 rfl ?_
  refine JL_move rfl ?_
  refine JL_done_up 20 [box _ _ [_, _]] [_, _] rfl rfl (by simp only [nrmF]; rfl) rfl rfl ?_
  refine JC_block ?_
  refine JC_addNil 3 1 ?_
  refine JC_norm ⟨20, [], [_, _, _, _, _, _, _, _, _, _, _, _, _, _, _, _, _, _, _, _]⟩ [box _ _ [_, _], osl _ _ _ _ _ _] [_, _] rfl rfl rfl ?_
  refine JC_loopS ((Nat) × (List Int) × (Option Addr) × (Nat) × (Nat)) (fun (i, r, ad3, cap3, n3) => i ≤ E.length ∧ (E.map (·.1)).take i = r ∧ r.length = n3 ∧ n3 = i) (fun (i, r, ad3, cap3, n3) => E.length - i) (fun u (i, r, ad3, cap3, n3) => [none, none, none, some (.slice ad3 n3 cap3), none, some (u 5), none, none, none, some (.int .i64 (i : Nat)), some (u 10), some (u 11), some (u 12), some (u 13), some (u 14), some (u 15), some (u 16), some (u 17), some (u 18), none]) (fun (i, r, ad3, cap3, n3) => [none, some (osl ad3 n3 cap3 3 1 (i64s r))]) (fun (i, r, ad3, cap3, n3) => []) (0, [], none, 0, 0) (by kernel_rfl) ?_ (by kernel_rfl) ?_ ?_
  · exact ⟨Nat.zero_le _, List.take_zero, rfl, rfl⟩
  · exact subset_nil
  intro u i hC
  obtain ⟨i, r, ad3, cap3, n3⟩ := i
  obtain ⟨hi, hr, hn3, hni⟩ := hC
  refine JC_norm ⟨20, [], [_, _, _, _, _, _, _, _, _, _, _, _, _, _, _, _, _, _, _, _]⟩ [box _ _ [_, _], osl _ _ _ _ _ _] [_, _] rfl rfl rfl ?_
  refine JC_seq ?_
  refine JC_region ?_
  refine JL_lss rfl rfl ?_
  refine JL_split (fun h10 => ?_) (fun h10 => ?_)
  · refine JL_done_up 20 [box _ _ [_, _], osl _ _ _ _ _ _] [_, _] rfl rfl (by simp only [nrmF]; rfl) rfl rfl ?_
    refine JC_seq ?_
    refine JC_true rfl ?_
    refine JC_skip ?_
    refine JE_then ?_
    refine JC_seq ?_
    refine JC_block ?_
    refine JC_seq ?_
    refine JC_region ?_
    refine JL_indexAddr i sl39 rfl rfl rfl (by omega) (by first | exact Reads.view (by repeat (first | with_reducible exact mm0 | refine mmS ?_)) | (exact Reads.own 1 rfl)) (by rw [pcells_length]; omega) ?_
    refine JL_loadEA (vs := [_, _]) ty48 (Nat.zero_lt_succ _) rfl (by first | exact Reads.view (by repeat (first | with_reducible exact mm0 | refine mmS ?_)) | (exact Reads.own 1 rfl)) (pcells_getA (l := E) (by omega)) ?_
    refine JL_alloc z48 (fun b5 => ?_)
    refine JL_store (vs := [_, _]) 2 ty48 rfl rfl rfl (AllOne.cons rfl (AllOne.cons rfl AllOne.nil)) rfl (Nat.le_of_ble_eq_true rfl) ?_
    refine JL_done_up 20 [box _ _ [_, _], osl _ _ _ _ _ _, box _ _ [_, _]] [_, _] rfl rfl (by simp only [nrmF]; rfl) rfl rfl ?_
    refine JC_region ?_
    refine JL_move rfl ?_
    refine JL_fieldAddr fo48_0 rfl ?_
    refine JL_load 2 ty3 rfl rfl rfl ?_
    refine JL_build1 sl28 rfl rfl (fun g16 => ?_)
    refine JL_appendI (L := _) 1 3 sl28 rfl rfl rfl rfl (by omega) (by omega) (fun ad17 cap17 hc17 => ?_)
    refine JL_dropAt 3 ?_
    refine JL_norm _ [box _ _ [_, _], osl _ _ _ _ _ _, box _ _ [_, _]] [_, _] rfl rfl rfl ?_
    refine JL_assign rfl ?_
    refine JL_nil_up 20 [box _ _ [_, _], osl _ _ _ _ _ _, box _ _ [_, _]] [_, _] rfl rfl (by simp only [nrmF]; rfl) rfl rfl ?_
    refine JE_block_normal ?_
    refine JE_then ?_
    refine JC_region ?_
    refine JL_add_to rfl rfl (IntWalk.i64_in _ (by omega)) ?_
    refine JL_move rfl ?_
    refine JL_nil_up 20 [box _ _ [_, _], osl _ _ _ _ _ _, box _ _ [_, _]] [_, _] rfl rfl (by simp only [nrmF]; rfl) rfl rfl ?_
    refine JE_dropAt 2 ?_
    refine JE_norm _ [box _ _ [_, _], osl _ _ _ _ _ _] [_, _] rfl rfl rfl ?_
    refine JE_nextS (i + 1, r ++ [(E.getD i dP).1], ad17, cap17, n3 + 1) (by kernel_rfl) ?_ ?_ (by kernel_rfl) ?_
    · exact ⟨by omega, by rw [← hr, take_snoc1 (by omega)], by rw [List.length_append, hn3]; rfl, by omega⟩
    · first | omega | (dsimp only; omega)
    · exact subset_app subset_nil ss0
  · refine JL_done_up 20 [box _ _ [_, _], osl _ _ _ _ _ _] [_, _] rfl rfl (by simp only [nrmF]; rfl) rfl rfl ?_
    refine JC_seq ?_
    refine JC_false rfl ?_
    refine JC_exit ?_
    refine JE_then_exit ?_
    refine JE_nextS_exit ?_
    refine JE_block_exit ?_
    refine JE_then ?_
    refine JC_seq ?_
    have hie : i = E.length := by omega
    rw [hie, List.take_of_length_le (by rw [List.length_map]; omega)] at hr
    subst hn3
    refine JC_ownCap 1 rfl (fun hcap => ?_)
    refine JC_region ?_
    refine JL_move rfl ?_
    refine JL_assign rfl ?_
    refine JL_done_up 20 [box _ _ [_, _], osl _ _ _ _ _ _] [_, _] rfl rfl (by simp only [nrmF]; rfl) rfl rfl ?_
    refine JC_ret ?_
    refine JE_give 1 rfl ?_
    refine JE_norm _ [box _ _ [_, _]] [_, _, _] rfl rfl rfl ?_
    refine JE_ret (vs := [_]) [vCells ad3 (i64s r)] Try.results59 ⟨rfl, rfl⟩ ?_ ?_
    · rw [show keysL E = r from hr]; exact ⟨ad3, cap3, rfl, hcap, rfl⟩
    · exact (all_cons (by repeat (first | with_reducible exact mm0 | refine mmS ?_)) all_nil)

theorem nums_con {ad1 ad2 : Option Addr} {c1 c2 : Nat} {E : List Pr} {R : List Int} (hE : E.length ≤ 1000000) :
    ConF Try.prog 57 [.agg #[.slice ad1 E.length c1, .slice ad2 R.length c2]] [vCells ad1 (pcells E), vCells ad2 (i64s R)]
      (III (numsL E)) := by
  refine ConF_of Try.func57 rfl 22 _ rfl rfl ?_
  intro w0
  refine JC_norm ⟨22, [], [_, _, _, _, _, _, _, _, _, _, _, _, _, _, _, _, _, _, _, _, _, _]⟩ [] [_, _] rfl rfl rfl ?_
  refine JC_seq ?_
  refine JC_region ?_
  refine JL_box rfl rfl (fun b1 => ?_)
  refine JL_assign rfl ?_
  refine JL_done_up 22 [box _ _ [_, _]] [_, _] rfl rfl (by simp only [nrmF]; rfl) rfl rfl ?_
  refine JC_seq ?_
  refine JC_region ?_
  refine JL_assign rfl ?_
  refine JL_done_up 22 [box _ _ [_, _]] [_, _] rfl rfl (by simp only [nrmF]; rfl) rfl rfl ?_
  refine JC_seq ?_
  refine JC_seq ?_
  refine JC_region ?_
  refine JL_fieldAddr fo41_0 rfl ?_
  refine JL_load 0 ty39 rfl rfl rfl ?_
  refine JL_len sl39 rfl ?_
  refine JL_move rfl ?_
  refine JL_done_up 22 [box _ _ [_, _]] [_, _] rfl rfl (by simp only [nrmF]; rfl) rfl rfl ?_
  refine JC_block ?_
  refine JC_addNil 3 1 ?_
  refine JC_norm ⟨22, [], [_, _, _, _, _, _, _, _, _, _, _, _, _, _, _, _, _, _, _, _, _, _]⟩ [box _ _ [_, _], osl _ _ _ _ _ _] [_, _] rfl rfl rfl ?_
  refine JC_loopS ((Nat) × (List Int) × (Option Addr) × (Nat) × (Nat)) (fun (i, r, ad3, cap3, n3) => i ≤ E.length ∧ (E.map (·.2)).take i = r ∧ r.length = n3 ∧ n3 = i) (fun (i, r, ad3, cap3, n3) => E.length - i) (fun u (i, r, ad3, cap3, n3) => [none, none, none, some (.slice ad3 n3 cap3), none, some (u 5), none, none, none, some (.int .i64 (i : Nat)), some (u 10), some (u 11), some (u 12), some (u 13), some (u 14), some (u 15), some (u 16), some (u 17), some (u 18), none, none, none]) (fun (i, r, ad3, cap3, n3) => [none, some (osl ad3 n3 cap3 3 1 (i64s r))]) (fun (i, r, ad3, cap3, n3) => []) (0, [], none, 0, 0) (by kernel_rfl) ?_ (by kernel_rfl) ?_ ?_
  · exact ⟨Nat.zero_le _, List.take_zero, rfl, rfl⟩
  · exact subset_nil
  intro u i hC
  obtain ⟨i, r, ad3, cap3, n3⟩ := i
  obtain ⟨hi, hr, hn3, hni⟩ := hC
  refine JC_norm ⟨22, [], [_, _, _, _, _, _, _, _, _, _, _, _, _, _, _, _, _, _, _, _, _, _]⟩ [box _ _ [_, _], osl _ _ _ _ _ _] [_, _] rfl rfl rfl ?_
  refine JC_seq ?_
  refine JC_region ?_
  refine JL_lss rfl rfl ?_
  refine JL_split (fun h10 => ?_) (fun h10 => ?_)
  · refine JL_done_up 22 [box _ _ [_, _], osl _ _ _ _ _ _] [_, _] rfl rfl (by simp only [nrmF]; rfl) rfl rfl ?_
    refine JC_seq ?_
    refine JC_true rfl ?_
    refine JC_skip ?_
    refine JE_then ?_
    refine JC_seq ?_
    refine JC_block ?_
    refine JC_seq ?_
    refine JC_region ?_
    refine JL_indexAddr i sl39 rfl rfl rfl (by omega) (by first | exact Reads.view (by repeat (first | with_reducible exact mm0 | refine mmS ?_)) | (exact Reads.own 1 rfl)) (by rw [pcells_length]; omega) ?_
    refine JL_loadEA (vs := [_, _]) ty48 (Nat.zero_lt_succ _) rfl (by first | exact Reads.view (by repeat (first | with_reducible exact mm0 | refine mmS ?_)) | (exact Reads.own 1 rfl)) (pcells_getA (l := E) (by omega)) ?_
    refine JL_alloc z48 (fun b5 => ?_)
    refine JL_store (vs := [_, _]) 2 ty48 rfl rfl rfl (AllOne.cons rfl (AllOne.cons rfl AllOne.nil)) rfl (Nat.le_of_ble_eq_true rfl) ?_
    refine JL_done_up 22 [box _ _ [_, _], osl _ _ _ _ _ _, box _ _ [_, _]] [_, _] rfl rfl (by simp only [nrmF]; rfl) rfl rfl ?_
    refine JC_region ?_
    refine JL_move rfl ?_
    refine JL_fieldAddr fo48_1 rfl ?_
    refine JL_load 2 ty3 rfl rfl rfl ?_
    refine JL_build1 sl28 rfl rfl (fun g16 => ?_)
    refine JL_appendI (L := _) 1 3 sl28 rfl rfl rfl rfl (by omega) (by omega) (fun ad17 cap17 hc17 => ?_)
    refine JL_dropAt 3 ?_
    refine JL_norm _ [box _ _ [_, _], osl _ _ _ _ _ _, box _ _ [_, _]] [_, _] rfl rfl rfl ?_
    refine JL_assign rfl ?_
    refine JL_nil_up 22 [box _ _ [_, _], osl _ _ _ _ _ _, box _ _ [_, _]] [_, _] rfl rfl (by simp only [nrmF]; rfl) rfl rfl ?_
    refine JE_block_normal ?_
    refine JE_then ?_
    refine JC_region ?_
    refine JL_add_to rfl rfl (IntWalk.i64_in _ (by omega)) ?_
    refine JL_move rfl ?_
    refine JL_nil_up 22 [box _ _ [_, _], osl _ _ _ _ _ _, box _ _ [_, _]] [_, _] rfl rfl (by simp only [nrmF]; rfl) rfl rfl ?_
    refine JE_dropAt 2 ?_
    refine JE_norm _ [box _ _ [_, _], osl _ _ _ _ _ _] [_, _] rfl rfl rfl ?_
    refine JE_nextS (i + 1, r ++ [(E.getD i dP).2], ad17, cap17, n3 + 1) (by kernel_rfl) ?_ ?_ (by kernel_rfl) ?_
    · exact ⟨by omega, by rw [← hr, take_snoc2 (by omega)], by rw [List.length_append, hn3]; rfl, by omega⟩
    · first | omega | (dsimp only; omega)
    · exact subset_app subset_nil ss0
  · refine JL_done_up 22 [box _ _ [_, _], osl _ _ _ _ _ _] [_, _] rfl rfl (by simp only [nrmF]; rfl) rfl rfl ?_
    refine JC_seq ?_
    refine JC_false rfl ?_
    refine JC_exit ?_
    refine JE_then_exit ?_
    refine JE_nextS_exit ?_
    refine JE_block_exit ?_
    refine JE_then ?_
    refine JC_seq ?_
    have hie : i = E.length := by omega
    rw [hie, List.take_of_length_le (by rw [List.length_map]; omega)] at hr
    subst hn3
    refine JC_ownCap 1 rfl (fun hcap => ?_)
    refine JC_region ?_
    refine JL_move rfl ?_
    refine JL_dropAt 0 ?_
    refine JL_norm _ [osl _ _ _ _ _ _] [_, _] rfl rfl rfl ?_
    refine JL_callO AsksO.nil (sortI_con (l := r) (by omega)) rfl ca67 ⟨rfl, rfl⟩ ?_
    rintro _ _ _ ⟨rfl, rfl, rfl⟩
    refine JL_done_up 22 [osl _ _ _ _ _ _] [_, _] rfl rfl (by simp only [nrmF]; rfl) rfl rfl ?_
    refine JC_seq ?_
    refine JC_region ?_
    refine JL_move rfl ?_
    refine JL_assign rfl ?_
    refine JL_done_up 22 [osl _ _ _ _ _ _] [_, _] rfl rfl (by simp only [nrmF]; rfl) rfl rfl ?_
    refine JC_ret ?_
    refine JE_give 0 rfl ?_
    refine JE_norm _ [] [_, _, _] rfl rfl rfl ?_
    refine JE_ret (vs := [_]) [vCells ad3 (i64s (srtI r))] Try.results57 ⟨rfl, rfl⟩ ?_ ?_
    · rw [show numsL E = srtI r from congrArg srtI hr]; exact ⟨ad3, cap3, by rw [srtI_len]; rfl, by rw [srtI_len]; exact hcap, rfl⟩
    · exact (all_cons (by repeat (first | with_reducible exact mm0 | refine mmS ?_)) all_nil)

theorem idxV_con {ad : Option Addr} {c : Nat} {L : List Int} {x : Int} (hln : L.length ≤ 1000000) :
    ConF Try.prog 69 [.slice ad L.length c, .int .i64 x] [vCells ad (i64s L)]
      (fun v φo => ∃ r, v = .int .i64 r ∧ φo = [] ∧ firstI (fun k => decide (x = L.getD k 0)) L.length r) := by
  refine ConF_of Try.func69 rfl 19 _ rfl rfl ?_
  intro w0
  refine JC_norm ⟨19, [], [_, _, _, _, _, _, _, _, _, _, _, _, _, _, _, _, _, _, _]⟩ [] [_] rfl rfl rfl ?_
  refine JC_seq ?_
  refine JC_region ?_
  refine JL_assign rfl ?_
  refine JL_done_up 19 [] [_] rfl rfl (by simp only [nrmF]; rfl) rfl rfl ?_
  refine JC_seq ?_
  refine JC_seq ?_
  refine JC_region ?_
  refine JL_move rfl ?_
  refine JL_len sl28 rfl ?_
  refine JL_move rfl ?_
  refine JL_done_up 19 [] [_] rfl rfl (by simp only [nrmF]; rfl) rfl rfl ?_
  refine JC_block ?_
  refine JC_loopS ((Nat)) (fun (k : Nat) => k ≤ L.length ∧ ∀ j, j < k → decide (x = L.getD j 0) = false) (fun (k : Nat) => L.length - k) (fun u (k : Nat) => [none, none, none, none, some (u 4), some (u 5), none, none, some (.int .i64 (k : Nat)), some (u 9), some (u 10), some (u 11), some (u 12), some (u 13), some (u 14), some (u 15), some (u 16), some (u 17), some (u 18)]) (fun (k : Nat) => []) (fun (k : Nat) => []) (0) (by kernel_rfl) ?_ (by kernel_rfl) ?_ ?_
  · exact ⟨Nat.zero_le _, fun j hj => absurd hj (Nat.not_lt_zero j)⟩
  · exact subset_nil
  intro u k hC
  obtain ⟨hk, hpf⟩ := hC
  refine JC_norm ⟨19, [], [_, _, _, _, _, _, _, _, _, _, _, _, _, _, _, _, _, _, _]⟩ [] [_] rfl rfl rfl ?_
  refine JC_seq ?_
  refine JC_region ?_
  refine JL_lss rfl rfl ?_
  refine JL_split (fun h9 => ?_) (fun h9 => ?_)
  · refine JL_done_up 19 [] [_] rfl rfl (by simp only [nrmF]; rfl) rfl rfl ?_
    refine JC_seq ?_
    refine JC_true rfl ?_
    refine JC_skip ?_
    refine JE_then ?_
    refine JC_seq ?_
    refine JC_block ?_
    refine JC_seq ?_
    refine JC_region ?_
    refine JL_move rfl ?_
    refine JL_assign rfl ?_
    refine JL_done_up 19 [] [_] rfl rfl (by simp only [nrmF]; rfl) rfl rfl ?_
    refine JC_seq ?_
    refine JC_region ?_
    refine JL_move rfl ?_
    refine JL_move rfl ?_
    refine JL_move rfl ?_
    refine JL_idx k sl28 rfl rfl rfl (by omega) (by first | exact Reads.view (by repeat (first | with_reducible exact mm0 | refine mmS ?_))) (by first | (rw [u32s_length]; omega) | (rw [i64s_length]; omega)) ?_
    refine JL_loadE ty3 rfl (by first | exact Reads.view (by repeat (first | with_reducible exact mm0 | refine mmS ?_))) (i64s_get (by omega)) ?_
    refine JL_eql rfl rfl ?_
    refine JL_split (fun h16 => ?_) (fun h16 => ?_)
    · refine JL_done_up 19 [] [_] rfl rfl (by simp only [nrmF]; rfl) rfl rfl ?_
      refine JC_true rfl ?_
      refine JC_seq ?_
      refine JC_region ?_
      refine JL_move rfl ?_
      refine JL_assign rfl ?_
      refine JL_done_up 19 [] [_] rfl rfl (by simp only [nrmF]; rfl) rfl rfl ?_
      refine JC_ret ?_
      refine JE_block_ret ?_
      refine JE_then_ret ?_
      refine JE_nextS_ret ?_
      refine JE_block_ret ?_
      refine JE_then_ret ?_
      refine JE_ret (vs := [_]) [] Try.results69 ⟨rfl, rfl⟩ ?_ ?_
      · exact ⟨_, rfl, rfl, .inr ⟨k, by omega, rfl, decide_eq_true h16, hpf⟩⟩
      · exact all_nil
    · refine JL_done_up 19 [] [_] rfl rfl (by simp only [nrmF]; rfl) rfl rfl ?_
      refine JC_false rfl ?_
      refine JC_skip ?_
      refine JE_block_normal ?_
      refine JE_then ?_
      refine JC_region ?_
      refine JL_add_to rfl rfl (IntWalk.i64_in _ (by omega)) ?_
      refine JL_move rfl ?_
      refine JL_nil_up 19 [] [_] rfl rfl (by simp only [nrmF]; rfl) rfl rfl ?_
      refine JE_nextS (k + 1) (by kernel_rfl) ?_ ?_ (by kernel_rfl) ?_
      · exact ⟨by omega, fun j hj => by
        by_cases h : j = k
        · subst h; exact decide_eq_false h16
        · exact hpf j (by omega)⟩
      · first | omega | (dsimp only; omega)
      · exact subset_app subset_nil ss0
  · refine JL_done_up 19 [] [_] rfl rfl (by simp only [nrmF]; rfl) rfl rfl ?_
    refine JC_seq ?_
    refine JC_false rfl ?_
    refine JC_exit ?_
    refine JE_then_exit ?_
    refine JE_nextS_exit ?_
    refine JE_block_exit ?_
    refine JE_then ?_
    refine JC_seq ?_
    refine JC_region ?_
    refine JL_assign rfl ?_
    refine JL_done_up 19 [] [_] rfl rfl (by simp only [nrmF]; rfl) rfl rfl ?_
    refine JC_ret ?_
    refine JE_ret (vs := [_]) [] Try.results69 ⟨rfl, rfl⟩ ?_ ?_
    · exact ⟨_, rfl, rfl, .inl ⟨rfl, fun j hj => hpf j (by omega)⟩⟩
    · exact all_nil

theorem contV_con {ad : Option Addr} {c : Nat} {L : List Int} {x : Int} (hln : L.length ≤ 1000000) :
    ConF Try.prog 62 [.slice ad L.length c, .int .i64 x] [vCells ad (i64s L)]
      (fun v φo => v = .bool (decide (x ∈ L)) ∧ φo = []) := by
  refine ConF_of Try.func62 rfl 9 _ rfl rfl ?_
  intro w0
  refine JC_norm ⟨9, [], [_, _, _, _, _, _, _, _, _]⟩ [] [_] rfl rfl rfl ?_
  refine JC_seq ?_
  refine JC_region ?_
  refine JL_assign rfl ?_
  refine JL_done_up 9 [] [_] rfl rfl (by simp only [nrmF]; rfl) rfl rfl ?_
  refine JC_seq ?_
  refine JC_region ?_
  refine JL_move rfl ?_
  refine JL_move rfl ?_
  refine JL_callF' (Asks.cons (holds_of_mem (by repeat (first | with_reducible exact mm0 | refine mmS ?_))) Asks.nil) (idxV_con hln) rfl ca69 ⟨rfl, rfl, rfl⟩ ?_
  rintro _ _ ⟨r7, rfl, rfl, hr7⟩
  refine JL_geq rfl rfl ?_
  rw [mem_of_first rfl (fun _ _ => rfl) hr7]
  refine JL_assign rfl ?_
  refine JL_done_up 9 [] [_] rfl rfl (by simp only [nrmF]; rfl) rfl rfl ?_
  refine JC_ret ?_
  refine JE_ret (vs := [_]) [] Try.results62 ⟨rfl, rfl⟩ ?_ ?_
  · exact ⟨rfl, rfl⟩
  · exact all_nil

theorem idxI_con {ad : Option Addr} {c : Nat} {L : List Int} {f : FuncId} {caps : List Value} {vc : VP} (hcf : callable Try.prog f = true) (p : Nat → Bool) (hn : L.length ≤ 9223372036854775807) (hc : ∀ k, k < L.length → ConF Try.prog f ([.int .i64 (L.getD k 0)] ++ caps) [vc] (fun v φo => v = .bool (p k) ∧ φo = [])) :
    ConF Try.prog 68 [.slice ad L.length c, .func (.func f) #[] caps.toArray] [vCells ad (i64s L), vc]
      (fun v φo => ∃ r, v = .int .i64 r ∧ φo = [] ∧ firstI p L.length r) := by
  refine ConF_of Try.func68 rfl 19 _ rfl rfl ?_
  intro w0
  refine JC_norm ⟨19, [], [_, _, _, _, _, _, _, _, _, _, _, _, _, _, _, _, _, _, _]⟩ [] [_, _] rfl rfl rfl ?_
  refine JC_seq ?_
  refine JC_region ?_
  refine JL_assign rfl ?_
  refine JL_done_up 19 [] [_, _] rfl rfl (by simp only [nrmF]; rfl) rfl rfl ?_
  refine JC_seq ?_
  refine JC_seq ?_
  refine JC_region ?_
  refine JL_move rfl ?_
  refine JL_len sl28 rfl ?_
  refine JL_move rfl ?_
  refine JL_done_up 19 [] [_, _] rfl rfl (by simp only [nrmF]; rfl) rfl rfl ?_
  refine JC_block ?_
  refine JC_loopS ((Nat)) (fun (k : Nat) => k ≤ L.length ∧ ∀ j, j < k → p j = false) (fun (k : Nat) => L.length - k) (fun u (k : Nat) => [none, none, none, none, some (u 4), some (u 5), none, none, some (.int .i64 (k : Nat)), some (u 9), some (u 10), some (u 11), some (u 12), some (u 13), some (u 14), some (u 15), some (u 16), some (u 17), some (u 18)]) (fun (k : Nat) => []) (fun (k : Nat) => []) (0) (by kernel_rfl) ?_ (by kernel_rfl) ?_ ?_
  · exact ⟨Nat.zero_le _, fun j hj => absurd hj (Nat.not_lt_zero j)⟩
  · exact subset_nil
  intro u k hC
  obtain ⟨hk, hpf⟩ := hC
  refine JC_norm ⟨19, [], [_, _, _, _, _, _, _, _, _, _, _, _, _, _, _, _, _, _, _]⟩ [] [_, _] rfl rfl rfl ?_
  refine JC_seq ?_
  refine JC_region ?_
  refine JL_lss rfl rfl ?_
  refine JL_split (fun h9 => ?_) (fun h9 => ?_)
  · refine JL_done_up 19 [] [_, _] rfl rfl (by simp only [nrmF]; rfl) rfl rfl ?_
    refine JC_seq ?_
    refine JC_true rfl ?_
    refine JC_skip ?_
    refine JE_then ?_
    refine JC_seq ?_
    refine JC_block ?_
    refine JC_seq ?_
    refine JC_region ?_
    refine JL_move rfl ?_
    refine JL_assign rfl ?_
    refine JL_done_up 19 [] [_, _] rfl rfl (by simp only [nrmF]; rfl) rfl rfl ?_
    refine JC_seq ?_
    refine JC_region ?_
    refine JL_move rfl ?_
    refine JL_move rfl ?_
    refine JL_move rfl ?_
    refine JL_idx k sl28 rfl rfl rfl (by omega) (by first | exact Reads.view (by repeat (first | with_reducible exact mm0 | refine mmS ?_))) (by first | (rw [u32s_length]; omega) | (rw [i64s_length]; omega)) ?_
    refine JL_loadE ty3 rfl (by first | exact Reads.view (by repeat (first | with_reducible exact mm0 | refine mmS ?_))) (i64s_get (by omega)) ?_
    refine JL_callD (Asks.cons (holds_of_mem (by repeat (first | with_reducible exact mm0 | refine mmS ?_))) Asks.nil) (hc k (by omega)) rfl hcf ⟨rfl, rfl⟩ ?_
    rintro _ _ ⟨rfl, rfl⟩
    refine JL_done_up 19 [] [_, _] rfl rfl (by simp only [nrmF]; rfl) rfl rfl ?_
    refine JC_cond rfl (fun hb => ?_) (fun hb => ?_)
    · have h16 := hb
      refine JC_seq ?_
      refine JC_region ?_
      refine JL_move rfl ?_
      refine JL_assign rfl ?_
      refine JL_done_up 19 [] [_, _] rfl rfl (by simp only [nrmF]; rfl) rfl rfl ?_
      refine JC_ret ?_
      refine JE_block_ret ?_
      refine JE_then_ret ?_
      refine JE_nextS_ret ?_
      refine JE_block_ret ?_
      refine JE_then_ret ?_
      refine JE_ret (vs := [_]) [] Try.results68 ⟨rfl, rfl⟩ ?_ ?_
      · exact ⟨_, rfl, rfl, .inr ⟨k, by omega, rfl, h16, hpf⟩⟩
      · exact all_nil
    · have h16 := hb
      refine JC_skip ?_
      refine JE_block_normal ?_
      refine JE_then ?_
      refine JC_region ?_
      refine JL_add_to rfl rfl (IntWalk.i64_in _ (by omega)) ?_
      refine JL_move rfl ?_
      refine JL_nil_up 19 [] [_, _] rfl rfl (by simp only [nrmF]; rfl) rfl rfl ?_
      refine JE_nextS (k + 1) (by kernel_rfl) ?_ ?_ (by kernel_rfl) ?_
      · exact ⟨by omega, fun j hj => by
        by_cases h : j = k
        · subst h; exact h16
        · exact hpf j (by omega)⟩
      · first | omega | (dsimp only; omega)
      · exact subset_app subset_nil ss0
  · refine JL_done_up 19 [] [_, _] rfl rfl (by simp only [nrmF]; rfl) rfl rfl ?_
    refine JC_seq ?_
    refine JC_false rfl ?_
    refine JC_exit ?_
    refine JE_then_exit ?_
    refine JE_nextS_exit ?_
    refine JE_block_exit ?_
    refine JE_then ?_
    refine JC_seq ?_
    refine JC_region ?_
    refine JL_assign rfl ?_
    refine JL_done_up 19 [] [_, _] rfl rfl (by simp only [nrmF]; rfl) rfl rfl ?_
    refine JC_ret ?_
    refine JE_ret (vs := [_]) [] Try.results68 ⟨rfl, rfl⟩ ?_ ?_
    · exact ⟨_, rfl, rfl, .inl ⟨rfl, fun j hj => hpf j (by omega)⟩⟩
    · exact all_nil

theorem contI_con {ad : Option Addr} {c : Nat} {L : List Int} {f : FuncId} {caps : List Value} {vc : VP} (hcf : callable Try.prog f = true) (p : Nat → Bool) (hn : L.length ≤ 9223372036854775807) (hc : ∀ k, k < L.length → ConF Try.prog f ([.int .i64 (L.getD k 0)] ++ caps) [vc] (fun v φo => v = .bool (p k) ∧ φo = [])) :
    ConF Try.prog 60 [.slice ad L.length c, .func (.func f) #[] caps.toArray] [vCells ad (i64s L), vc]
      (fun v φo => v = .bool ((List.range L.length).any p) ∧ φo = []) := by
  refine ConF_of Try.func60 rfl 9 _ rfl rfl ?_
  intro w0
  refine JC_norm ⟨9, [], [_, _, _, _, _, _, _, _, _]⟩ [] [_, _] rfl rfl rfl ?_
  refine JC_seq ?_
  refine JC_region ?_
  refine JL_assign rfl ?_
  refine JL_done_up 9 [] [_, _] rfl rfl (by simp only [nrmF]; rfl) rfl rfl ?_
  refine JC_seq ?_
  refine JC_region ?_
  refine JL_move rfl ?_
  refine JL_move rfl ?_
  refine JL_callF' (Asks.cons (holds_of_mem (by repeat (first | with_reducible exact mm0 | refine mmS ?_))) (Asks.cons (holds_of_mem (by repeat (first | with_reducible exact mm0 | refine mmS ?_))) Asks.nil)) (idxI_con hcf p hn hc) rfl ca68 ⟨rfl, rfl, rfl⟩ ?_
  rintro _ _ ⟨r7, rfl, rfl, hr7⟩
  refine JL_geq rfl rfl ?_
  rw [any_of_first hr7]
  refine JL_assign rfl ?_
  refine JL_done_up 9 [] [_, _] rfl rfl (by simp only [nrmF]; rfl) rfl rfl ?_
  refine JC_ret ?_
  refine JE_ret (vs := [_]) [] Try.results60 ⟨rfl, rfl⟩ ?_ ?_
  · exact ⟨rfl, rfl⟩
  · exact all_nil

theorem validcl_con {adu : Option Addr} {ad : Option Addr} {c : Nat} {L : List Int} {x : Int} (hln : L.length ≤ 1000000) :
    ConF Try.prog 61 [.int .i64 x, ptrAt adu 0] [vCells adu [.slice ad L.length c], vCells ad (i64s L)]
      (fun v φo => v = .bool (decide (x ∈ L)) ∧ φo = []) := by
  refine ConF_of Try.func61 rfl 7 _ rfl rfl ?_
  intro w0
  refine JC_norm ⟨7, [], [_, _, _, _, _, _, _]⟩ [] [_, _] rfl rfl rfl ?_
  refine JC_seq ?_
  refine JC_region ?_
  refine JL_assign rfl ?_
  refine JL_done_up 7 [] [_, _] rfl rfl (by simp only [nrmF]; rfl) rfl rfl ?_
  refine JC_seq ?_
  refine JC_region ?_
  refine JL_loadE ty28 rfl (by first | exact Reads.view (by repeat (first | with_reducible exact mm0 | refine mmS ?_))) rfl ?_
  refine JL_move rfl ?_
  refine JL_callF' (Asks.cons (holds_of_mem (by repeat (first | with_reducible exact mm0 | refine mmS ?_))) Asks.nil) (contV_con (x := x) hln) rfl ca62 ⟨rfl, rfl, rfl⟩ ?_
  rintro _ _ ⟨rfl, rfl⟩
  refine JL_assign rfl ?_
  refine JL_done_up 7 [] [_, _] rfl rfl (by simp only [nrmF]; rfl) rfl rfl ?_
  refine JC_ret ?_
  refine JE_ret (vs := [_]) [] Try.results61 ⟨rfl, rfl⟩ ?_ ?_
  · exact ⟨rfl, rfl⟩
  · exact all_nil

set_option maxHeartbeats 1000000 in
theorem edv_con {ad1 ad2 : Option Addr} {c1 c2 : Nat} {E : List Pr} {R : List Int} (hE : E.length ≤ 1000000) (hR : R.length ≤ 1000000) :
    ConF Try.prog 45 [.agg #[.slice ad1 E.length c1, .slice ad2 R.length c2]] [vCells ad1 (pcells E), vCells ad2 (i64s R)]
      (fun v φo => v = .bool (decide (edC E R)) ∧ φo = []) := by
  refine ConF_of Try.func45 rfl 26 _ rfl rfl ?_
  intro w0
  refine JC_norm ⟨26, [], [_, _, _, _, _, _, _, _, _, _, _, _, _, _, _, _, _, _, _, _, _, _, _, _, _, _]⟩ [] [_, _] rfl rfl rfl ?_
  refine JC_seq ?_
  refine JC_region ?_
  refine JL_box rfl rfl (fun b1 => ?_)
  refine JL_assign rfl ?_
  refine JL_done_up 26 [box _ _ [_, _]] [_, _] rfl rfl (by simp only [nrmF]; rfl) rfl rfl ?_
  refine JC_seq ?_
  refine JC_region ?_
  refine JL_loadA (vs := [_, _]) 0 ty41 rfl rfl ⟨rfl, rfl, trivial⟩ ?_
  refine JL_callF' (Asks.cons (holds_of_mem (by repeat (first | with_reducible exact mm0 | refine mmS ?_))) (Asks.cons (holds_of_mem (by repeat (first | with_reducible exact mm0 | refine mmS ?_))) Asks.nil)) (nums_con hE) rfl ca57 ⟨rfl, rfl⟩ ?_
  rintro _ _ ⟨ad5, c5, rfl, hc5, rfl⟩
  refine JL_alloc z28 (fun b3 => ?_)
  refine JL_store (vs := [_]) 1 ty28 rfl rfl rfl (AllOne.cons rfl AllOne.nil) rfl (Nat.le_of_ble_eq_true rfl) ?_
  refine JL_done_up 26 [box _ _ [_, _], box _ _ [_]] [_, _, _] rfl rfl (by simp only [nrmF]; rfl) rfl rfl ?_
  refine JC_seq ?_
  refine JC_seq ?_
  refine JC_region ?_
  refine JL_loadA (vs := [_, _]) 0 ty41 rfl rfl ⟨rfl, rfl, trivial⟩ ?_
  refine JL_callF' (Asks.cons (holds_of_mem (by repeat (first | with_reducible exact mm0 | refine mmS ?_))) (Asks.cons (holds_of_mem (by repeat (first | with_reducible exact mm0 | refine mmS ?_))) Asks.nil)) (keys_con hE) rfl ca59 ⟨rfl, rfl⟩ ?_
  rintro _ _ ⟨ad7, c7, rfl, hc7, rfl⟩
  refine JL_callF' (Asks.cons (holds_of_mem (by repeat (first | with_reducible exact mm0 | refine mmS ?_))) Asks.nil) (asc_con (by rw [List.length_map]; omega)) rfl ca58 ⟨rfl, rfl, rfl⟩ ?_
  rintro _ _ ⟨rfl, rfl⟩
  refine JL_split (fun h8 => ?_) (fun h8 => ?_)
  · refine JL_not rfl ?_
    rw [Bool.not_true]
    refine JL_move rfl ?_
    refine JL_guard_yes rfl rfl ?_
    refine JL_load 1 ty28 rfl rfl rfl ?_
    refine JL_guard_yes rfl rfl ?_
    refine JL_callF' (Asks.cons (holds_of_mem (by repeat (first | with_reducible exact mm0 | refine mmS ?_))) Asks.nil) (asc_con (by rw [srtI_len, List.length_map]; omega)) rfl ca58 ⟨rfl, rfl, rfl⟩ ?_
    rintro _ _ ⟨rfl, rfl⟩
    refine JL_split (fun h12 => ?_) (fun h12 => ?_)
    · refine JL_guard_yes rfl rfl ?_
      refine JL_not rfl ?_
      rw [Bool.not_true]
      refine JL_pick_f rfl rfl ?_
      refine JL_move rfl ?_
      refine JL_guard_yes rfl rfl ?_
      refine JL_fieldAddr fo41_1 rfl ?_
      refine JL_guard_yes rfl rfl ?_
      refine JL_load 0 ty28 rfl rfl rfl ?_
      refine JL_guard_yes rfl rfl ?_
      refine JL_callF' (Asks.cons (holds_of_mem (by repeat (first | with_reducible exact mm0 | refine mmS ?_))) Asks.nil) (asc_con (by omega)) rfl ca58 ⟨rfl, rfl, rfl⟩ ?_
      rintro _ _ ⟨rfl, rfl⟩
      refine JL_split (fun h18 => ?_) (fun h18 => ?_)
      · refine JL_guard_yes rfl rfl ?_
        refine JL_not rfl ?_
        rw [Bool.not_true]
        refine JL_pick_f rfl rfl ?_
        refine JL_done_up 26 [box _ _ [_, _], box _ _ [_]] [_, _, _, _] rfl rfl (by simp only [nrmF]; rfl) rfl rfl ?_
        refine JC_false rfl ?_
        refine JC_skip ?_
        refine JE_then ?_
        refine JC_seq ?_
        refine JC_region ?_
        refine JL_fieldAddr fo41_1 rfl ?_
        refine JL_load 0 ty28 rfl rfl rfl ?_
        refine JL_makeFunc (vs := [_]) ⟨rfl, rfl⟩ ?_
        refine JL_callF' (Asks.cons (holds_of_mem (by repeat (first | with_reducible exact mm0 | refine mmS ?_))) (Asks.cons (Asks.list (l := [vCells (some ⟨b3, 0, none⟩) [.slice ad5 (numsL E).length c5], vCells ad5 (i64s (numsL E))]) (Asks.cons (holds_of_box 1 rfl) (Asks.cons (holds_of_mem (by repeat (first | with_reducible exact mm0 | refine mmS ?_))) Asks.nil))) Asks.nil)) (contI_con (f := 61) (caps := [.pointer (some ⟨b3, 0, none⟩)]) (vc := vList [vCells (some ⟨b3, 0, none⟩) [.slice ad5 (numsL E).length c5], vCells ad5 (i64s (numsL E))]) (by kernel_rfl) (fun k => decide (R.getD k 0 ∈ numsL E)) (by omega) (fun k hk => ConF.ofList (ps := []) (validcl_con (x := R.getD k 0) (adu := (some ⟨b3, 0, none⟩)) (by rw [srtI_len, List.length_map]; omega)))) rfl ca60 ⟨rfl, rfl, rfl⟩ ?_
        rintro _ _ ⟨rfl, rfl⟩
        refine JL_not rfl ?_
        refine JL_assign rfl ?_
        refine JL_done_up 26 [box _ _ [_, _], box _ _ [_]] [_, _, _, _] rfl rfl (by simp only [nrmF]; rfl) rfl rfl ?_
        refine JC_ret ?_
        refine JE_ret (vs := [_]) [] Try.results45 ⟨rfl, rfl⟩ ?_ ?_
        · rw [ed_last h8 h12 h18]; exact ⟨rfl, rfl⟩
        · exact all_nil
      · refine JL_guard_yes rfl rfl ?_
        refine JL_not rfl ?_
        rw [Bool.not_false]
        refine JL_pick_f rfl rfl ?_
        refine JL_done_up 26 [box _ _ [_, _], box _ _ [_]] [_, _, _, _] rfl rfl (by simp only [nrmF]; rfl) rfl rfl ?_
        refine JC_true rfl ?_
        refine JC_seq ?_
        refine JC_region ?_
        refine JL_assign rfl ?_
        refine JL_done_up 26 [box _ _ [_, _], box _ _ [_]] [_, _, _, _] rfl rfl (by simp only [nrmF]; rfl) rfl rfl ?_
        refine JC_ret ?_
        refine JE_then_ret ?_
        refine JE_ret (vs := [_]) [] Try.results45 ⟨rfl, rfl⟩ ?_ ?_
        · rw [decide_eq_false (p := edC E R) (fun h => h18 h.2.2.1)]; exact ⟨rfl, rfl⟩
        · exact all_nil
    · refine JL_guard_yes rfl rfl ?_
      refine JL_not rfl ?_
      rw [Bool.not_false]
      refine JL_pick_f rfl rfl ?_
      refine JL_move rfl ?_
      refine JL_guard_no rfl rfl ?_
      refine JL_guard_no rfl rfl ?_
      refine JL_guard_no rfl rfl ?_
      refine JL_guard_no rfl rfl ?_
      refine JL_pick_t rfl rfl ?_
      refine JL_done_up 26 [box _ _ [_, _], box _ _ [_]] [_, _, _, _] rfl rfl (by simp only [nrmF]; rfl) rfl rfl ?_
      refine JC_true rfl ?_
      refine JC_seq ?_
      refine JC_region ?_
      refine JL_assign rfl ?_
      refine JL_done_up 26 [box _ _ [_, _], box _ _ [_]] [_, _, _, _] rfl rfl (by simp only [nrmF]; rfl) rfl rfl ?_
      refine JC_ret ?_
      refine JE_then_ret ?_
      refine JE_ret (vs := [_]) [] Try.results45 ⟨rfl, rfl⟩ ?_ ?_
      · rw [decide_eq_false (p := edC E R) (fun h => h12 h.2.1)]; exact ⟨rfl, rfl⟩
      · exact all_nil
  · refine JL_not rfl ?_
    rw [Bool.not_false]
    refine JL_move rfl ?_
    refine JL_guard_no rfl rfl ?_
    refine JL_guard_no rfl rfl ?_
    refine JL_guard_no rfl rfl ?_
    refine JL_pick_t rfl rfl ?_
    refine JL_move rfl ?_
    refine JL_guard_no rfl rfl ?_
    refine JL_guard_no rfl rfl ?_
    refine JL_guard_no rfl rfl ?_
    refine JL_guard_no rfl rfl ?_
    refine JL_pick_t rfl rfl ?_
    refine JL_done_up 26 [box _ _ [_, _], box _ _ [_]] [_, _, _, _] rfl rfl (by simp only [nrmF]; rfl) rfl rfl ?_
    refine JC_true rfl ?_
    refine JC_seq ?_
    refine JC_region ?_
    refine JL_assign rfl ?_
    refine JL_done_up 26 [box _ _ [_, _], box _ _ [_]] [_, _, _, _] rfl rfl (by simp only [nrmF]; rfl) rfl rfl ?_
    refine JC_ret ?_
    refine JE_then_ret ?_
    refine JE_ret (vs := [_]) [] Try.results45 ⟨rfl, rfl⟩ ?_ ?_
    · rw [decide_eq_false (p := edC E R) (fun h => h8 h.1)]; exact ⟨rfl, rfl⟩
    · exact all_nil

theorem find_con {ad1 ad2 : Option Addr} {c1 c2 : Nat} {E : List Pr} {R : List Int} (hE : E.length ≤ 1000000) {k : Int} :
    ConF Try.prog 63 [.agg #[.slice ad1 E.length c1, .slice ad2 R.length c2], .int .i64 k] [vCells ad1 (pcells E), vCells ad2 (i64s R)]
      (fun v φo => v = .tuple #[.int .i64 (fndV E k), .bool (fndB E k)] ∧ φo = []) := by
  refine ConF_of Try.func63 rfl 22 _ rfl rfl ?_
  intro w0
  refine JC_norm ⟨22, [], [_, _, _, _, _, _, _, _, _, _, _, _, _, _, _, _, _, _, _, _, _, _]⟩ [] [_, _] rfl rfl rfl ?_
  refine JC_seq ?_
  refine JC_region ?_
  refine JL_box rfl rfl (fun b2 => ?_)
  refine JL_assign rfl ?_
  refine JL_assign rfl ?_
  refine JL_done_up 22 [box _ _ [_, _]] [_, _] rfl rfl (by simp only [nrmF]; rfl) rfl rfl ?_
  refine JC_seq ?_
  refine JC_seq ?_
  refine JC_region ?_
  refine JL_fieldAddr fo41_0 rfl ?_
  refine JL_load 0 ty39 rfl rfl rfl ?_
  refine JL_len sl39 rfl ?_
  refine JL_move rfl ?_
  refine JL_done_up 22 [box _ _ [_, _]] [_, _] rfl rfl (by simp only [nrmF]; rfl) rfl rfl ?_
  refine JC_block ?_
  refine JC_loopS ((Nat)) (fun (i : Nat) => i ≤ E.length ∧ ∀ j, j < i → (E.getD j dP).1 ≠ k) (fun (i : Nat) => E.length - i) (fun u (i : Nat) => [none, none, none, none, some (u 4), some (u 5), none, some (u 7), none, none, none, some (.int .i64 (i : Nat)), some (u 12), some (u 13), some (u 14), some (u 15), some (u 16), some (u 17), some (u 18), some (u 19), some (u 20), some (u 21)]) (fun (i : Nat) => [none]) (fun (i : Nat) => []) (0) (by kernel_rfl) ?_ (by kernel_rfl) ?_ ?_
  · exact ⟨Nat.zero_le _, fun j hj => absurd hj (Nat.not_lt_zero _)⟩
  · exact subset_nil
  intro u i hC
  obtain ⟨hi, hj⟩ := hC
  refine JC_norm ⟨22, [], [_, _, _, _, _, _, _, _, _, _, _, _, _, _, _, _, _, _, _, _, _, _]⟩ [box _ _ [_, _]] [_, _] rfl rfl rfl ?_
  refine JC_seq ?_
  refine JC_region ?_
  refine JL_lss rfl rfl ?_
  refine JL_split (fun h12 => ?_) (fun h12 => ?_)
  · refine JL_done_up 22 [box _ _ [_, _]] [_, _] rfl rfl (by simp only [nrmF]; rfl) rfl rfl ?_
    refine JC_seq ?_
    refine JC_true rfl ?_
    refine JC_skip ?_
    refine JE_then ?_
    refine JC_seq ?_
    refine JC_block ?_
    refine JC_seq ?_
    refine JC_region ?_
    refine JL_indexAddr i sl39 rfl rfl rfl (by omega) (by first | exact Reads.view (by repeat (first | with_reducible exact mm0 | refine mmS ?_))) (by rw [pcells_length]; omega) ?_
    refine JL_loadEA (vs := [_, _]) ty48 (Nat.zero_lt_succ _) rfl (by first | exact Reads.view (by repeat (first | with_reducible exact mm0 | refine mmS ?_))) (pcells_getA (l := E) (by omega)) ?_
    refine JL_alloc z48 (fun b7 => ?_)
    refine JL_store (vs := [_, _]) 1 ty48 rfl rfl rfl (AllOne.cons rfl (AllOne.cons rfl AllOne.nil)) rfl (Nat.le_of_ble_eq_true rfl) ?_
    refine JL_done_up 22 [box _ _ [_, _], box _ _ [_, _]] [_, _] rfl rfl (by simp only [nrmF]; rfl) rfl rfl ?_
    refine JC_seq ?_
    refine JC_region ?_
    refine JL_fieldAddr fo48_0 rfl ?_
    refine JL_load 1 ty3 rfl rfl rfl ?_
    refine JL_move rfl ?_
    refine JL_eql rfl rfl ?_
    refine JL_split (fun h18 => ?_) (fun h18 => ?_)
    · refine JL_done_up 22 [box _ _ [_, _], box _ _ [_, _]] [_, _] rfl rfl (by simp only [nrmF]; rfl) rfl rfl ?_
      refine JC_true rfl ?_
      refine JC_seq ?_
      refine JC_region ?_
      refine JL_fieldAddr fo48_1 rfl ?_
      refine JL_load 1 ty3 rfl rfl rfl ?_
      refine JL_assign rfl ?_
      refine JL_assign rfl ?_
      refine JL_done_up 22 [box _ _ [_, _], box _ _ [_, _]] [_, _] rfl rfl (by simp only [nrmF]; rfl) rfl rfl ?_
      refine JC_ret ?_
      refine JE_block_ret ?_
      refine JE_then_ret ?_
      refine JE_nextS_ret ?_
      refine JE_block_ret ?_
      refine JE_then_ret ?_
      refine JE_ret (vs := [_, _]) [] Try.results63 ⟨rfl, rfl, rfl⟩ ?_ ?_
      · rw [(fnd_hit (by omega) h18 hj).1, (fnd_hit (by omega) h18 hj).2]; exact ⟨rfl, rfl⟩
      · exact all_nil
    · refine JL_done_up 22 [box _ _ [_, _], box _ _ [_, _]] [_, _] rfl rfl (by simp only [nrmF]; rfl) rfl rfl ?_
      refine JC_false rfl ?_
      refine JC_skip ?_
      refine JE_block_normal ?_
      refine JE_then ?_
      refine JC_region ?_
      refine JL_add_to rfl rfl (IntWalk.i64_in _ (by omega)) ?_
      refine JL_move rfl ?_
      refine JL_nil_up 22 [box _ _ [_, _], box _ _ [_, _]] [_, _] rfl rfl (by simp only [nrmF]; rfl) rfl rfl ?_
      refine JE_dropAt 1 ?_
      refine JE_norm _ [box _ _ [_, _]] [_, _] rfl rfl rfl ?_
      refine JE_nextS (i + 1) (by kernel_rfl) ?_ ?_ (by kernel_rfl) ?_
      · exact ⟨by omega, fun j hj2 => by
        by_cases h : j = i
        · subst h; exact h18
        · exact hj j (by omega)⟩
      · first | omega | (dsimp only; omega)
      · exact subset_app subset_nil ss0
  · refine JL_done_up 22 [box _ _ [_, _]] [_, _] rfl rfl (by simp only [nrmF]; rfl) rfl rfl ?_
    refine JC_seq ?_
    refine JC_false rfl ?_
    refine JC_exit ?_
    refine JE_then_exit ?_
    refine JE_nextS_exit ?_
    refine JE_block_exit ?_
    refine JE_then ?_
    refine JC_seq ?_
    refine JC_region ?_
    refine JL_assign rfl ?_
    refine JL_assign rfl ?_
    refine JL_done_up 22 [box _ _ [_, _]] [_, _] rfl rfl (by simp only [nrmF]; rfl) rfl rfl ?_
    refine JC_ret ?_
    refine JE_ret (vs := [_, _]) [] Try.results63 ⟨rfl, rfl, rfl⟩ ?_ ?_
    · rw [(fnd_miss (fun j h => hj j (by omega))).1, (fnd_miss (fun j h => hj j (by omega))).2]; exact ⟨rfl, rfl⟩
    · exact all_nil

theorem number_con {ad1 ad2 : Option Addr} {c1 c2 : Nat} {E : List Pr} {R : List Int} (hE : E.length ≤ 1000000) (hR : R.length ≤ 1000000) {k : Int} :
    ConF Try.prog 46 [.agg #[.slice ad1 E.length c1, .slice ad2 R.length c2], .int .i64 k] [vCells ad1 (pcells E), vCells ad2 (i64s R)]
      (fun v φo => v = .tuple #[.int .i64 (numV E R k), .int .i64 (numE E R k)] ∧ φo = []) := by
  refine ConF_of Try.func46 rfl 20 _ rfl rfl ?_
  intro w0
  refine JC_norm ⟨20, [], [_, _, _, _, _, _, _, _, _, _, _, _, _, _, _, _, _, _, _, _]⟩ [] [_, _] rfl rfl rfl ?_
  refine JC_seq ?_
  refine JC_region ?_
  refine JL_box rfl rfl (fun b2 => ?_)
  refine JL_assign rfl ?_
  refine JL_assign rfl ?_
  refine JL_done_up 20 [box _ _ [_, _]] [_, _] rfl rfl (by simp only [nrmF]; rfl) rfl rfl ?_
  refine JC_seq ?_
  refine JC_seq ?_
  refine JC_region ?_
  refine JL_loadA (vs := [_, _]) 0 ty41 rfl rfl ⟨rfl, rfl, trivial⟩ ?_
  refine JL_callF' (Asks.cons (holds_of_mem (by repeat (first | with_reducible exact mm0 | refine mmS ?_))) (Asks.cons (holds_of_mem (by repeat (first | with_reducible exact mm0 | refine mmS ?_))) Asks.nil)) (edv_con (by omega) (by omega)) rfl ca45 ⟨rfl, rfl⟩ ?_
  rintro _ _ ⟨rfl, rfl⟩
  refine JL_split (fun h9 => ?_) (fun h9 => ?_)
  · refine JL_not rfl ?_
    rw [Bool.not_true]
    refine JL_done_up 20 [box _ _ [_, _]] [_, _] rfl rfl (by simp only [nrmF]; rfl) rfl rfl ?_
    refine JC_false rfl ?_
    refine JC_skip ?_
    refine JE_then ?_
    refine JC_seq ?_
    refine JC_region ?_
    refine JL_loadA (vs := [_, _]) 0 ty41 rfl rfl ⟨rfl, rfl, trivial⟩ ?_
    refine JL_move rfl ?_
    refine JL_callF' (Asks.cons (holds_of_mem (by repeat (first | with_reducible exact mm0 | refine mmS ?_))) (Asks.cons (holds_of_mem (by repeat (first | with_reducible exact mm0 | refine mmS ?_))) Asks.nil)) (find_con (by omega)) rfl ca63 ⟨rfl, rfl, rfl⟩ ?_
    rintro _ _ ⟨rfl, rfl⟩
    refine JL_move rfl ?_
    refine JL_extract rfl rfl ?_
    refine JL_extract rfl rfl ?_
    refine JL_assign rfl ?_
    refine JL_assign rfl ?_
    refine JL_done_up 20 [box _ _ [_, _]] [_, _] rfl rfl (by simp only [nrmF]; rfl) rfl rfl ?_
    refine JC_seq ?_
    refine JC_seq ?_
    rcases hB : fndB E k with _ | _
    · refine JC_region ?_
      refine JL_move rfl ?_
      refine JL_not rfl ?_
      rw [Bool.not_false]
      refine JL_done_up 20 [box _ _ [_, _]] [_, _] rfl rfl (by simp only [nrmF]; rfl) rfl rfl ?_
      refine JC_true rfl ?_
      refine JC_seq ?_
      refine JC_region ?_
      refine JL_assign rfl ?_
      refine JL_assign rfl ?_
      refine JL_done_up 20 [box _ _ [_, _]] [_, _] rfl rfl (by simp only [nrmF]; rfl) rfl rfl ?_
      refine JC_ret ?_
      refine JE_then_ret ?_
      refine JE_ret (vs := [_, _]) [] Try.results46 ⟨rfl, rfl, rfl⟩ ?_ ?_
      · rw [(num_none h9 hB).1, (num_none h9 hB).2]; exact ⟨rfl, rfl⟩
      · exact all_nil
    · refine JC_region ?_
      refine JL_move rfl ?_
      refine JL_not rfl ?_
      rw [Bool.not_true]
      refine JL_done_up 20 [box _ _ [_, _]] [_, _] rfl rfl (by simp only [nrmF]; rfl) rfl rfl ?_
      refine JC_false rfl ?_
      refine JC_skip ?_
      refine JE_then ?_
      refine JC_seq ?_
      refine JC_region ?_
      refine JL_move rfl ?_
      refine JL_assign rfl ?_
      refine JL_assign rfl ?_
      refine JL_done_up 20 [box _ _ [_, _]] [_, _] rfl rfl (by simp only [nrmF]; rfl) rfl rfl ?_
      refine JC_ret ?_
      refine JE_ret (vs := [_, _]) [] Try.results46 ⟨rfl, rfl, rfl⟩ ?_ ?_
      · rw [(num_ok h9 hB).1, (num_ok h9 hB).2]; exact ⟨rfl, rfl⟩
      · exact all_nil
  · refine JL_not rfl ?_
    rw [Bool.not_false]
    refine JL_done_up 20 [box _ _ [_, _]] [_, _] rfl rfl (by simp only [nrmF]; rfl) rfl rfl ?_
    refine JC_true rfl ?_
    refine JC_seq ?_
    refine JC_region ?_
    refine JL_assign rfl ?_
    refine JL_assign rfl ?_
    refine JL_done_up 20 [box _ _ [_, _]] [_, _] rfl rfl (by simp only [nrmF]; rfl) rfl rfl ?_
    refine JC_ret ?_
    refine JE_then_ret ?_
    refine JE_ret (vs := [_, _]) [] Try.results46 ⟨rfl, rfl, rfl⟩ ?_ ?_
    · rw [(num_no h9).1, (num_no h9).2]; exact ⟨rfl, rfl⟩
    · exact all_nil

end Go.Fw.K
