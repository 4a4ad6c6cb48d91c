/- Walks through functions of the given program: each meets its contract. (Printed by a program of this repo.) -/
import Derived.Test.YtgnljjdcbfijnaaGreatDoorS2
import Derived.Test.YtgnljjdcbfijnaaGreatDoorS5
import Derived.Test.YtgnljjdcbfijnaaGreatDoorFrL
import Derived.Test.YtgnljjdcbfijnaaGreatDoorStdF
import Derived.Test.YtgnljjdcbfijnaaGreatDoorStdH
import Derived.Test.YtgnljjdcbfijnaaGreatDoorProg
namespace Go.Fw.SC
open Go Go.RowKit Go.Proofs Go.Nat9 Go.Fw
attribute [local irreducible] JC JL JE
theorem ca26 : callable Tryz.prog 26 = true := by kernel_rfl
theorem ca34 : callable Tryz.prog 34 = true := by kernel_rfl
theorem ca71 : callable Tryz.prog 71 = true := by kernel_rfl
theorem fo24_0 : fOf Tryz.prog 24 0 = some 0 := by kernel_rfl
theorem fo26_1 : fOf Tryz.prog 26 1 = some 1 := by kernel_rfl
theorem fo26_2 : fOf Tryz.prog 26 2 = some 2 := by kernel_rfl
theorem sl22 : slOf Tryz.prog 22 = some (82, 1, 4, [.int .u32 0]) := by kernel_rfl
theorem sl37 : slOf Tryz.prog 37 = some (3, 1, 8, [.int .i64 0]) := by kernel_rfl
theorem sl48 : slOf Tryz.prog 48 = some (26, 3, 56, [.bool false, .slice none 0 0, .slice none 0 0]) := by kernel_rfl
theorem ty22 : tyOf Tryz.prog 22 = some (false, 1) := by kernel_rfl
theorem ty3 : tyOf Tryz.prog 3 = some (false, 1) := by kernel_rfl
end Go.Fw.SC
namespace Go.Fw.K
open Go Go.RowKit Go.Proofs Go.Nat9 Go.Fw Go.Fw.SC
attribute [local irreducible] JC JL JE

theorem fewB_con {adw ad3 : Option Addr} {nw cw c3 : Nat} {l : List Fi} (hn3 : l.length ≤ 9223372036854775807) :
    ConF Tryz.prog 8 [.slice adw nw cw, .slice ad3 l.length c3] [vCells ad3 (rcells l)]
      (fun v φo => v = .bool (fewB nw l) ∧ φo = []) := by
  refine ConF_of Tryz.func8 rfl 38 _ rfl rfl ?_
  intro w0
  refine JC_norm ⟨38, [], [_, _, _, _, _, _, _, _, _, _, _, _, _, _, _, _, _, _, _, _, _, _, _, _, _, _, _, _, _, _, _, _, _, _, _, _, _, _]⟩ [] [_] rfl rfl rfl ?_
  refine JC_seq ?_
  refine JC_region ?_
  refine JL_assign rfl ?_
  refine JL_done_up 38 [] [_] rfl rfl (by simp only [nrmF]; rfl) rfl rfl ?_
  refine JC_seq ?_
  refine JC_seq ?_
  refine JC_region ?_
  refine JL_assign rfl ?_
  refine JL_done_up 38 [] [_] rfl rfl (by simp only [nrmF]; rfl) rfl rfl ?_
  refine JC_block ?_
  refine JC_loopS ((Nat)) (fun (k : Nat) => k ≤ l.length ∧ ∀ i, i < k → (l.getD i dI).n ≤ 3 ∧ (l.getD i dI).m ≤ 3) (fun (k : Nat) => l.length - k) (fun u (k : Nat) => [none, none, none, none, some (u 4), some (.int .i64 (k : Nat)), some (u 6), some (u 7), some (u 8), some (u 9), some (u 10), some (u 11), some (u 12), some (u 13), some (u 14), some (u 15), some (u 16), some (u 17), some (u 18), some (u 19), some (u 20), some (u 21), some (u 22), some (u 23), some (u 24), some (u 25), some (u 26), some (u 27), some (u 28), some (u 29), none, none, none, none, none, none, none, none]) (fun (k : Nat) => []) (fun (k : Nat) => []) (0) (by kernel_rfl) ?_ (by kernel_rfl) ?_ ?_
  · exact ⟨Nat.zero_le _, fun i hi => absurd hi (Nat.not_lt_zero _)⟩
  · exact subset_nil
  intro u k hC
  obtain ⟨hk, hok⟩ := hC
  refine JC_norm ⟨38, [], [_, _, _, _, _, _, _, _, _, _, _, _, _, _, _, _, _, _, _, _, _, _, _, _, _, _, _, _, _, _, _, _, _, _, _, _, _, _]⟩ [] [_] rfl rfl rfl ?_
  refine JC_seq ?_
  refine JC_seq ?_
  refine JC_region ?_
  refine JL_move rfl ?_
  refine JL_move rfl ?_
  refine JL_len sl48 rfl ?_
  refine JL_lss rfl rfl ?_
  refine JL_split (fun h9 => ?_) (fun h9 => ?_)
  · refine JL_done_up 38 [] [_] rfl rfl (by simp only [nrmF]; rfl) rfl rfl ?_
    refine JC_true rfl ?_
    refine JC_skip ?_
    refine JE_then ?_
    refine JC_seq ?_
    refine JC_block ?_
    refine JC_seq ?_
    refine JC_region ?_
    refine JL_move rfl ?_
    refine JL_move rfl ?_
    refine JL_indexAddr k sl48 rfl rfl rfl (by omega) (by first | exact Reads.view (by repeat (first | with_reducible exact mm0 | refine mmS ?_))) (by rw [rcells_length]; omega) ?_
    refine JL_fieldAddrE fo26_1 rfl (by first | exact Reads.view (by repeat (first | with_reducible exact mm0 | refine mmS ?_))) (by rw [rcells_length]; omega) ?_
    refine JL_fieldAddrE fo24_0 rfl (by first | exact Reads.view (by repeat (first | with_reducible exact mm0 | refine mmS ?_))) (by rw [rcells_length]; omega) ?_
    refine JL_loadE ty22 rfl (by first | exact Reads.view (by repeat (first | with_reducible exact mm0 | refine mmS ?_))) (rcells_getA (m := 1) (by omega) _ rfl) ?_
    refine JL_len sl22 rfl ?_
    refine JL_gtr rfl rfl ?_
    refine JL_split (fun h19 => ?_) (fun h19 => ?_)
    · refine JL_move rfl ?_
      refine JL_guard_no rfl rfl ?_
      refine JL_guard_no rfl rfl ?_
      refine JL_guard_no rfl rfl ?_
      refine JL_guard_no rfl rfl ?_
      refine JL_guard_no rfl rfl ?_
      refine JL_guard_no rfl rfl ?_
      refine JL_guard_no rfl rfl ?_
      refine JL_guard_no rfl rfl ?_
      refine JL_pick_t rfl rfl ?_
      refine JL_done_up 38 [] [_] rfl rfl (by simp only [nrmF]; rfl) rfl rfl ?_
      refine JC_true rfl ?_
      refine JC_seq ?_
      refine JC_region ?_
      refine JL_assign rfl ?_
      refine JL_done_up 38 [] [_] rfl rfl (by simp only [nrmF]; rfl) rfl rfl ?_
      refine JC_ret ?_
      refine JE_block_ret ?_
      refine JE_then_ret ?_
      refine JE_nextS_ret ?_
      refine JE_block_ret ?_
      refine JE_then_ret ?_
      refine JE_ret (vs := [_]) [] Tryz.results8 ⟨rfl, rfl⟩ ?_ ?_
      · rw [show fewB nw l = false from decide_eq_false (fun h => by have := h.2.2 k (by omega); omega)]; exact ⟨rfl, rfl⟩
      · exact all_nil
    · refine JL_move rfl ?_
      refine JL_guard_yes rfl rfl ?_
      refine JL_move rfl ?_
      refine JL_guard_yes rfl rfl ?_
      refine JL_move rfl ?_
      refine JL_guard_yes rfl rfl ?_
      refine JL_indexAddr k sl48 rfl rfl rfl (by omega) (by first | exact Reads.view (by repeat (first | with_reducible exact mm0 | refine mmS ?_))) (by rw [rcells_length]; omega) ?_
      refine JL_guard_yes rfl rfl ?_
      refine JL_fieldAddrE fo26_2 rfl (by first | exact Reads.view (by repeat (first | with_reducible exact mm0 | refine mmS ?_))) (by rw [rcells_length]; omega) ?_
      refine JL_guard_yes rfl rfl ?_
      refine JL_fieldAddrE fo24_0 rfl (by first | exact Reads.view (by repeat (first | with_reducible exact mm0 | refine mmS ?_))) (by rw [rcells_length]; omega) ?_
      refine JL_guard_yes rfl rfl ?_
      refine JL_loadE ty22 rfl (by first | exact Reads.view (by repeat (first | with_reducible exact mm0 | refine mmS ?_))) (rcells_getA (m := 2) (by omega) _ rfl) ?_
      refine JL_guard_yes rfl rfl ?_
      refine JL_len sl22 rfl ?_
      refine JL_guard_yes rfl rfl ?_
      refine JL_gtr rfl rfl ?_
      refine JL_split (fun h28 => ?_) (fun h28 => ?_)
      · refine JL_pick_f rfl rfl ?_
        refine JL_done_up 38 [] [_] rfl rfl (by simp only [nrmF]; rfl) rfl rfl ?_
        refine JC_true rfl ?_
        refine JC_seq ?_
        refine JC_region ?_
        refine JL_assign rfl ?_
        refine JL_done_up 38 [] [_] rfl rfl (by simp only [nrmF]; rfl) rfl rfl ?_
        refine JC_ret ?_
        refine JE_block_ret ?_
        refine JE_then_ret ?_
        refine JE_nextS_ret ?_
        refine JE_block_ret ?_
        refine JE_then_ret ?_
        refine JE_ret (vs := [_]) [] Tryz.results8 ⟨rfl, rfl⟩ ?_ ?_
        · rw [show fewB nw l = false from decide_eq_false (fun h => by have := h.2.2 k (by omega); omega)]; exact ⟨rfl, rfl⟩
        · exact all_nil
      · refine JL_pick_f rfl rfl ?_
        refine JL_done_up 38 [] [_] rfl rfl (by simp only [nrmF]; rfl) rfl rfl ?_
        refine JC_false rfl ?_
        refine JC_skip ?_
        refine JE_block_normal ?_
        refine JE_then ?_
        refine JC_region ?_
        refine JL_move rfl ?_
        refine JL_add_to rfl rfl (IntWalk.i64_in _ (by omega)) ?_
        refine JL_assign rfl ?_
        refine JL_nil_up 38 [] [_] rfl rfl (by simp only [nrmF]; rfl) rfl rfl ?_
        refine JE_nextS (k + 1) (by kernel_rfl) ?_ ?_ (by kernel_rfl) ?_
        · exact ⟨by omega, fun i hi => by
          by_cases h : i = k
          · subst h; exact ⟨by omega, by omega⟩
          · exact hok i (by omega)⟩
        · first | omega | (dsimp only; omega)
        · exact subset_app subset_nil ss0
  · refine JL_done_up 38 [] [_] rfl rfl (by simp only [nrmF]; rfl) rfl rfl ?_
    refine JC_false rfl ?_
    refine JC_exit ?_
    refine JE_then_exit ?_
    refine JE_nextS_exit ?_
    refine JE_block_exit ?_
    refine JE_then ?_
    refine JC_seq ?_
    refine JC_region ?_
    refine JL_move rfl ?_
    refine JL_len sl37 rfl ?_
    refine JL_leq rfl rfl ?_
    refine JL_split (fun h32 => ?_) (fun h32 => ?_)
    · refine JL_move rfl ?_
      refine JL_guard_yes rfl rfl ?_
      refine JL_move rfl ?_
      refine JL_guard_yes rfl rfl ?_
      refine JL_len sl48 rfl ?_
      refine JL_guard_yes rfl rfl ?_
      refine JL_leq rfl rfl ?_
      refine JL_split (fun h36 => ?_) (fun h36 => ?_)
      · refine JL_pick_t rfl rfl ?_
        refine JL_assign rfl ?_
        refine JL_done_up 38 [] [_] rfl rfl (by simp only [nrmF]; rfl) rfl rfl ?_
        refine JC_ret ?_
        refine JE_ret (vs := [_]) [] Tryz.results8 ⟨rfl, rfl⟩ ?_ ?_
        · rw [show fewB nw l = true from decide_eq_true ⟨by omega, by omega, fun i hi => hok i (by omega)⟩]; exact ⟨rfl, rfl⟩
        · exact all_nil
      · refine JL_pick_t rfl rfl ?_
        refine JL_assign rfl ?_
        refine JL_done_up 38 [] [_] rfl rfl (by simp only [nrmF]; rfl) rfl rfl ?_
        refine JC_ret ?_
        refine JE_ret (vs := [_]) [] Tryz.results8 ⟨rfl, rfl⟩ ?_ ?_
        · rw [show fewB nw l = false from decide_eq_false (fun h => by have := h.1; have := h.2.1; omega)]; exact ⟨rfl, rfl⟩
        · exact all_nil
    · refine JL_move rfl ?_
      refine JL_guard_no rfl rfl ?_
      refine JL_guard_no rfl rfl ?_
      refine JL_guard_no rfl rfl ?_
      refine JL_pick_f rfl rfl ?_
      refine JL_assign rfl ?_
      refine JL_done_up 38 [] [_] rfl rfl (by simp only [nrmF]; rfl) rfl rfl ?_
      refine JC_ret ?_
      refine JE_ret (vs := [_]) [] Tryz.results8 ⟨rfl, rfl⟩ ?_ ?_
      · rw [show fewB nw l = false from decide_eq_false (fun h => by have := h.1; have := h.2.1; omega)]; exact ⟨rfl, rfl⟩
      · exact all_nil

theorem chkcl_con {w : Int} :
    ConF Tryz.prog 72 [.int .i64 w] []
      (fun v φo => v = .bool (!decide (wOk w)) ∧ φo = []) := by
  refine ConF_of Tryz.func72 rfl 6 _ rfl rfl ?_
  intro w0
  refine JC_norm ⟨6, [], [_, _, _, _, _, _]⟩ [] [] rfl rfl rfl ?_
  refine JC_seq ?_
  refine JC_region ?_
  refine JL_assign rfl ?_
  refine JL_done_up 6 [] [] rfl rfl (by simp only [nrmF]; rfl) rfl rfl ?_
  refine JC_seq ?_
  refine JC_region ?_
  refine JL_move rfl ?_
  refine JL_callF' Asks.nil (iwt_con) rfl ca26 ⟨rfl, rfl⟩ ?_
  rintro _ _ ⟨rfl, rfl⟩
  refine JL_not rfl ?_
  refine JL_assign rfl ?_
  refine JL_done_up 6 [] [] rfl rfl (by simp only [nrmF]; rfl) rfl rfl ?_
  refine JC_ret ?_
  refine JE_ret (vs := [_]) [] Tryz.results72 ⟨rfl, rfl⟩ ?_ ?_
  · exact ⟨rfl, rfl⟩
  · exact all_nil

theorem icheck_con {ad : Option Addr} {c : Nat} {L : List Int} :
    ConF Tryz.prog 45 [.slice ad L.length c] [vCells ad (i64s L)]
      (fun v φo => v = .int .i64 (chkE L) ∧ φo = []) := by
  refine ConF_of Tryz.func45 rfl 8 _ rfl rfl ?_
  intro w0
  refine JC_norm ⟨8, [], [_, _, _, _, _, _, _, _]⟩ [] [_] rfl rfl rfl ?_
  refine JC_seq ?_
  refine JC_region ?_
  refine JL_assign rfl ?_
  refine JL_done_up 8 [] [_] rfl rfl (by simp only [nrmF]; rfl) rfl rfl ?_
  refine JC_seq ?_
  refine JC_seq ?_
  refine JC_region ?_
  refine JL_move rfl ?_
  refine JL_len sl37 rfl ?_
  refine JL_gtr rfl rfl ?_
  refine JL_split (fun h5 => ?_) (fun h5 => ?_)
  · refine JL_done_up 8 [] [_] rfl rfl (by simp only [nrmF]; rfl) rfl rfl ?_
    refine JC_true rfl ?_
    refine JC_seq ?_
    refine JC_region ?_
    refine JL_assign rfl ?_
    refine JL_done_up 8 [] [_] rfl rfl (by simp only [nrmF]; rfl) rfl rfl ?_
    refine JC_ret ?_
    refine JE_then_ret ?_
    refine JE_ret (vs := [_]) [] Tryz.results45 ⟨rfl, rfl⟩ ?_ ?_
    · rw [chkE_long (by omega)]; exact ⟨rfl, rfl⟩
    · exact all_nil
  · refine JL_done_up 8 [] [_] rfl rfl (by simp only [nrmF]; rfl) rfl rfl ?_
    refine JC_false rfl ?_
    refine JC_skip ?_
    refine JE_then ?_
    refine JC_seq ?_
    refine JC_seq ?_
    refine JC_region ?_
    refine JL_move rfl ?_
    refine JL_callF' (Asks.cons (holds_of_mem (by repeat (first | with_reducible exact mm0 | refine mmS ?_))) (Asks.cons (Asks.list (l := []) Asks.nil) Asks.nil)) (contI_con (f := 72) (caps := []) (vc := vList []) (by kernel_rfl) (fun k => !decide (wOk (L.getD k 0))) (by omega) (fun k hk => (chkcl_con (w := L.getD k 0)).views (fun w h p hp => absurd hp List.not_mem_nil))) rfl ca71 ⟨rfl, rfl, rfl⟩ ?_
    rintro _ _ ⟨rfl, rfl⟩
    refine JL_splitV (fun h7 => ?_) (fun h7 => ?_)
    · refine JL_done_up 8 [] [_] rfl rfl (by simp only [nrmF]; rfl) rfl rfl ?_
      refine JC_true rfl ?_
      refine JC_seq ?_
      refine JC_region ?_
      refine JL_assign rfl ?_
      refine JL_done_up 8 [] [_] rfl rfl (by simp only [nrmF]; rfl) rfl rfl ?_
      refine JC_ret ?_
      refine JE_then_ret ?_
      refine JE_ret (vs := [_]) [] Tryz.results45 ⟨rfl, rfl⟩ ?_ ?_
      · rw [chkE_bad (by omega) h7]; exact ⟨rfl, rfl⟩
      · exact all_nil
    · refine JL_done_up 8 [] [_] rfl rfl (by simp only [nrmF]; rfl) rfl rfl ?_
      refine JC_false rfl ?_
      refine JC_skip ?_
      refine JE_then ?_
      refine JC_seq ?_
      refine JC_region ?_
      refine JL_assign rfl ?_
      refine JL_done_up 8 [] [_] rfl rfl (by simp only [nrmF]; rfl) rfl rfl ?_
      refine JC_ret ?_
      refine JE_ret (vs := [_]) [] Tryz.results45 ⟨rfl, rfl⟩ ?_ ?_
      · rw [chkE_ok (by omega) (ne_true_of_eq_false h7)]; exact ⟨rfl, rfl⟩
      · exact all_nil

theorem rcheck_con {ad : Option Addr} {c : Nat} {L : List Int} :
    ConF Tryz.prog 46 [.slice ad L.length c] [vCells ad (i64s L)]
      (fun v φo => v = .int .i64 (chkE L) ∧ φo = []) := by
  refine ConF_of Tryz.func46 rfl 19 _ rfl rfl ?_
  intro w0
  refine JC_norm ⟨19, [], [_, _, _, _, _, _, _, _, _, _, _, _, _, _, _, _, _, _, _]⟩ [] [_] rfl rfl rfl ?_
  refine JC_seq ?_
  refine JC_region ?_
  refine JL_assign rfl ?_
  refine JL_done_up 19 [] [_] rfl rfl (by simp only [nrmF]; rfl) rfl rfl ?_
  refine JC_seq ?_
  refine JC_seq ?_
  refine JC_region ?_
  refine JL_move rfl ?_
  refine JL_len sl37 rfl ?_
  refine JL_gtr rfl rfl ?_
  refine JL_split (fun h6 => ?_) (fun h6 => ?_)
  · refine JL_done_up 19 [] [_] rfl rfl (by simp only [nrmF]; rfl) rfl rfl ?_
    refine JC_true rfl ?_
    refine JC_seq ?_
    refine JC_region ?_
    refine JL_assign rfl ?_
    refine JL_done_up 19 [] [_] rfl rfl (by simp only [nrmF]; rfl) rfl rfl ?_
    refine JC_ret ?_
    refine JE_then_ret ?_
    refine JE_ret (vs := [_]) [] Tryz.results46 ⟨rfl, rfl⟩ ?_ ?_
    · rw [chkE_long (by omega)]; exact ⟨rfl, rfl⟩
    · exact all_nil
  · refine JL_done_up 19 [] [_] rfl rfl (by simp only [nrmF]; rfl) rfl rfl ?_
    refine JC_false rfl ?_
    refine JC_skip ?_
    refine JE_then ?_
    refine JC_seq ?_
    refine JC_seq ?_
    refine JC_region ?_
    refine JL_assign rfl ?_
    refine JL_done_up 19 [] [_] rfl rfl (by simp only [nrmF]; rfl) rfl rfl ?_
    refine JC_block ?_
    refine JC_loopS ((Nat)) (fun (k : Nat) => k ≤ L.length ∧ ∀ j, j < k → wOk (L.getD j 0)) (fun (k : Nat) => L.length - k) (fun u (k : Nat) => [none, none, some (u 2), some (.int .i64 (k : Nat)), none, none, none, some (u 7), some (u 8), some (u 9), some (u 10), some (u 11), some (u 12), some (u 13), some (u 14), some (u 15), some (u 16), some (u 17), some (u 18)]) (fun (k : Nat) => []) (fun (k : Nat) => []) (0) (by kernel_rfl) ?_ (by kernel_rfl) ?_ ?_
    · exact ⟨Nat.zero_le _, fun j hj => absurd hj (Nat.not_lt_zero _)⟩
    · exact subset_nil
    intro u k hC
    obtain ⟨hk, hok⟩ := hC
    refine JC_norm ⟨19, [], [_, _, _, _, _, _, _, _, _, _, _, _, _, _, _, _, _, _, _]⟩ [] [_] rfl rfl rfl ?_
    refine JC_seq ?_
    refine JC_seq ?_
    refine JC_region ?_
    refine JL_move rfl ?_
    refine JL_move rfl ?_
    refine JL_len sl37 rfl ?_
    refine JL_lss rfl rfl ?_
    refine JL_split (fun h10 => ?_) (fun h10 => ?_)
    · refine JL_done_up 19 [] [_] rfl rfl (by simp only [nrmF]; rfl) rfl rfl ?_
      refine JC_true rfl ?_
      refine JC_skip ?_
      refine JE_then ?_
      refine JC_seq ?_
      refine JC_block ?_
      refine JC_seq ?_
      refine JC_region ?_
      refine JL_move rfl ?_
      refine JL_move rfl ?_
      refine JL_idx k sl37 rfl rfl rfl (by omega) (by first | exact Reads.view (by repeat (first | with_reducible exact mm0 | refine mmS ?_))) (by first | (rw [u32s_length]; omega) | (rw [i64s_length]; omega)) ?_
      refine JL_loadE ty3 rfl (by first | exact Reads.view (by repeat (first | with_reducible exact mm0 | refine mmS ?_))) (i64s_get (by omega)) ?_
      refine JL_callF' Asks.nil (rwt_con) rfl ca34 ⟨rfl, rfl⟩ ?_
      rintro _ _ ⟨rfl, rfl⟩
      refine JL_split (fun h17 => ?_) (fun h17 => ?_)
      · refine JL_not rfl ?_
        rw [Bool.not_true]
        refine JL_done_up 19 [] [_] rfl rfl (by simp only [nrmF]; rfl) rfl rfl ?_
        refine JC_false rfl ?_
        refine JC_skip ?_
        refine JE_block_normal ?_
        refine JE_then ?_
        refine JC_region ?_
        refine JL_move rfl ?_
        refine JL_add_to rfl rfl (IntWalk.i64_in _ (by omega)) ?_
        refine JL_assign rfl ?_
        refine JL_nil_up 19 [] [_] rfl rfl (by simp only [nrmF]; rfl) rfl rfl ?_
        refine JE_nextS (k + 1) (by kernel_rfl) ?_ ?_ (by kernel_rfl) ?_
        · exact ⟨by omega, fun j hj => by
          by_cases h : j = k
          · subst h; exact h17
          · exact hok j (by omega)⟩
        · first | omega | (dsimp only; omega)
        · exact subset_app subset_nil ss0
      · refine JL_not rfl ?_
        rw [Bool.not_false]
        refine JL_done_up 19 [] [_] rfl rfl (by simp only [nrmF]; rfl) rfl rfl ?_
        refine JC_true rfl ?_
        refine JC_seq ?_
        refine JC_region ?_
        refine JL_assign rfl ?_
        refine JL_done_up 19 [] [_] rfl rfl (by simp only [nrmF]; rfl) rfl rfl ?_
        refine JC_ret ?_
        refine JE_block_ret ?_
        refine JE_then_ret ?_
        refine JE_nextS_ret ?_
        refine JE_block_ret ?_
        refine JE_then_ret ?_
        refine JE_ret (vs := [_]) [] Tryz.results46 ⟨rfl, rfl⟩ ?_ ?_
        · rw [chkE_bad (by omega) (badW_hit (by omega) h17)]; exact ⟨rfl, rfl⟩
        · exact all_nil
    · refine JL_done_up 19 [] [_] rfl rfl (by simp only [nrmF]; rfl) rfl rfl ?_
      refine JC_false rfl ?_
      refine JC_exit ?_
      refine JE_then_exit ?_
      refine JE_nextS_exit ?_
      refine JE_block_exit ?_
      refine JE_then ?_
      refine JC_seq ?_
      refine JC_region ?_
      refine JL_assign rfl ?_
      refine JL_done_up 19 [] [_] rfl rfl (by simp only [nrmF]; rfl) rfl rfl ?_
      refine JC_ret ?_
      refine JE_ret (vs := [_]) [] Tryz.results46 ⟨rfl, rfl⟩ ?_ ?_
      · rw [chkE_ok (by omega) (badW_miss (fun j hj => hok j (by omega)))]; exact ⟨rfl, rfl⟩
      · exact all_nil

end Go.Fw.K
