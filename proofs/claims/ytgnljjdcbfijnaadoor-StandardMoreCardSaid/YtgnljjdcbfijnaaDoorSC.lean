/- Walks through functions of the given program: each meets its contract. (Printed by a program of this repo.) -/
import Derived.Test.YtgnljjdcbfijnaaDoorS2
import Derived.Test.YtgnljjdcbfijnaaDoorS5
import Derived.Test.YtgnljjdcbfijnaaDoorFrL
import Derived.Test.YtgnljjdcbfijnaaDoorStdF
import Derived.Test.YtgnljjdcbfijnaaDoorStdH
import Derived.Test.YtgnljjdcbfijnaaDoorProg
namespace Go.Fw.SC
open Go Go.RowKit Go.Proofs Go.Nat9 Go.Fw
attribute [local irreducible] JC JL JE
theorem ca30 : callable Tryd.prog 30 = true := by kernel_rfl
theorem ca68 : callable Tryd.prog 68 = true := by kernel_rfl
theorem fo33_0 : fOf Tryd.prog 33 0 = some 0 := by kernel_rfl
theorem fo35_1 : fOf Tryd.prog 35 1 = some 1 := by kernel_rfl
theorem fo35_2 : fOf Tryd.prog 35 2 = some 2 := by kernel_rfl
theorem sl31 : slOf Tryd.prog 31 = some (101, 1, 4, [.int .u32 0]) := by kernel_rfl
theorem sl54 : slOf Tryd.prog 54 = some (3, 1, 8, [.int .i64 0]) := by kernel_rfl
theorem sl61 : slOf Tryd.prog 61 = some (35, 3, 56, [.bool false, .slice none 0 0, .slice none 0 0]) := by kernel_rfl
theorem ty31 : tyOf Tryd.prog 31 = some (false, 1) := by kernel_rfl
end Go.Fw.SC
namespace Go.Fw.K
open Go Go.RowKit Go.Proofs Go.Nat9 Go.Fw Go.Fw.SC
attribute [local irreducible] JC JL JE

theorem fewB_con {adw ad3 : Option Addr} {nw cw c3 : Nat} {l : List Fi} (hn3 : l.length ≤ 9223372036854775807) :
    ConF Tryd.prog 13 [.slice adw nw cw, .slice ad3 l.length c3] [vCells ad3 (rcells l)]
      (fun v φo => v = .bool (fewB nw l) ∧ φo = []) := by
  refine ConF_of Tryd.func13 rfl 38 _ rfl rfl ?_
  intro w0
  refine JC_norm ⟨38, [], [_, _, _, _, _, _, _, _, _, _, _, _, _, _, _, _, _, _, _, _, _, _, _, _, _, _, _, _, _, _, _, _, _, _, _, _, _, _]⟩ [] [_] rfl rfl rfl ?_
  refine JC_seq ?_
  refine JC_region ?_
  refine JL_assign rfl ?_
  refine JL_done_up 38 [] [_] rfl rfl (by simp only [nrmF]; rfl) rfl rfl ?_
  refine JC_seq ?_
  refine JC_seq ?_
  refine JC_region ?_
  refine JL_assign rfl ?_
  refine JL_done_up 38 [] [_] rfl rfl (by simp only [nrmF]; rfl) rfl rfl ?_
  refine JC_block ?_
  refine JC_loopS ((Nat)) (fun (k : Nat) => k ≤ l.length ∧ ∀ i, i < k → (l.getD i dI).n ≤ 3 ∧ (l.getD i dI).m ≤ 3) (fun (k : Nat) => l.length - k) (fun u (k : Nat) => [none, none, none, none, some (u 4), some (.int .i64 (k : Nat)), some (u 6), some (u 7), some (u 8), some (u 9), some (u 10), some (u 11), some (u 12), some (u 13), some (u 14), some (u 15), some (u 16), some (u 17), some (u 18), some (u 19), some (u 20), some (u 21), some (u 22), some (u 23), some (u 24), some (u 25), some (u 26), some (u 27), some (u 28), some (u 29), none, none, none, none, none, none, none, none]) (fun (k : Nat) => []) (fun (k : Nat) => []) (0) (by kernel_rfl) ?_ (by kernel_rfl) ?_ ?_
  · exact ⟨Nat.zero_le _, fun i hi => absurd hi (Nat.not_lt_zero _)⟩
  · exact subset_nil
  intro u k hC
  obtain ⟨hk, hok⟩ := hC
  refine JC_norm ⟨38, [], [_, _, _, _, _, _, _, _, _, _, _, _, _, _, _, _, _, _, _, _, _, _, _, _, _, _, _, _, _, _, _, _, _, _, _, _, _, _]⟩ [] [_] rfl rfl rfl ?_
  refine JC_seq ?_
  refine JC_seq ?_
  refine JC_region ?_
  refine JL_move rfl ?_
  refine JL_move rfl ?_
  refine JL_len sl61 rfl ?_
  refine JL_lss rfl rfl ?_
  refine JL_split (fun h9 => ?_) (fun h9 => ?_)
  · refine JL_done_up 38 [] [_] rfl rfl (by simp only [nrmF]; rfl) rfl rfl ?_
    refine JC_true rfl ?_
    refine JC_skip ?_
    refine JE_then ?_
    refine JC_seq ?_
    refine JC_block ?_
    refine JC_seq ?_
    refine JC_region ?_
    refine JL_move rfl ?_
    refine JL_move rfl ?_
    refine JL_indexAddr k sl61 rfl rfl rfl (by omega) (by first | exact Reads.view (by repeat (first | with_reducible exact mm0 | refine mmS ?_))) (by rw [rcells_length]; omega) ?_
    refine JL_fieldAddrE fo35_1 rfl (by first | exact Reads.view (by repeat (first | with_reducible exact mm0 | refine mmS ?_))) (by rw [rcells_length]; omega) ?_
    refine JL_fieldAddrE fo33_0 rfl (by first | exact Reads.view (by repeat (first | with_reducible exact mm0 | refine mmS ?_))) (by rw [rcells_length]; omega) ?_
    refine JL_loadE ty31 rfl (by first | exact Reads.view (by repeat (first | with_reducible exact mm0 | refine mmS ?_))) (rcells_getA (m := 1) (by omega) _ rfl) ?_
    refine JL_len sl31 rfl ?_
    refine JL_gtr rfl rfl ?_
    refine JL_split (fun h19 => ?_) (fun h19 => ?_)
    · refine JL_move rfl ?_
      refine JL_guard_no rfl rfl ?_
      refine JL_guard_no rfl rfl ?_
      refine JL_guard_no rfl rfl ?_
      refine JL_guard_no rfl rfl ?_
      refine JL_guard_no rfl rfl ?_
      refine JL_guard_no rfl rfl ?_
      refine JL_guard_no rfl rfl ?_
      refine JL_guard_no rfl rfl ?_
      refine JL_pick_t rfl rfl ?_
      refine JL_done_up 38 [] [_] rfl rfl (by simp only [nrmF]; rfl) rfl rfl ?_
      refine JC_true rfl ?_
      refine JC_seq ?_
      refine JC_region ?_
      refine JL_assign rfl ?_
      refine JL_done_up 38 [] [_] rfl rfl (by simp only [nrmF]; rfl) rfl rfl ?_
      refine JC_ret ?_
      refine JE_block_ret ?_
      refine JE_then_ret ?_
      refine JE_nextS_ret ?_
      refine JE_block_ret ?_
      refine JE_then_ret ?_
      refine JE_ret (vs := [_]) [] Tryd.results13 ⟨rfl, rfl⟩ ?_ ?_
      · rw [show fewB nw l = false from decide_eq_false (fun h => by have := h.2.2 k (by omega); omega)]; exact ⟨rfl, rfl⟩
      · exact all_nil
    · refine JL_move rfl ?_
      refine JL_guard_yes rfl rfl ?_
      refine JL_move rfl ?_
      refine JL_guard_yes rfl rfl ?_
      refine JL_move rfl ?_
      refine JL_guard_yes rfl rfl ?_
      refine JL_indexAddr k sl61 rfl rfl rfl (by omega) (by first | exact Reads.view (by repeat (first | with_reducible exact mm0 | refine mmS ?_))) (by rw [rcells_length]; omega) ?_
      refine JL_guard_yes rfl rfl ?_
      refine JL_fieldAddrE fo35_2 rfl (by first | exact Reads.view (by repeat (first | with_reducible exact mm0 | refine mmS ?_))) (by rw [rcells_length]; omega) ?_
      refine JL_guard_yes rfl rfl ?_
      refine JL_fieldAddrE fo33_0 rfl (by first | exact Reads.view (by repeat (first | with_reducible exact mm0 | refine mmS ?_))) (by rw [rcells_length]; omega) ?_
      refine JL_guard_yes rfl rfl ?_
      refine JL_loadE ty31 rfl (by first | exact Reads.view (by repeat (first | with_reducible exact mm0 | refine mmS ?_))) (rcells_getA (m := 2) (by omega) _ rfl) ?_
      refine JL_guard_yes rfl rfl ?_
      refine JL_len sl31 rfl ?_
      refine JL_guard_yes rfl rfl ?_
      refine JL_gtr rfl rfl ?_
      refine JL_split (fun h28 => ?_) (fun h28 => ?_)
      · refine JL_pick_f rfl rfl ?_
        refine JL_done_up 38 [] [_] rfl rfl (by simp only [nrmF]; rfl) rfl rfl ?_
        refine JC_true rfl ?_
        refine JC_seq ?_
        refine JC_region ?_
        refine JL_assign rfl ?_
        refine JL_done_up 38 [] [_] rfl rfl (by simp only [nrmF]; rfl) rfl rfl ?_
        refine JC_ret ?_
        refine JE_block_ret ?_
        refine JE_then_ret ?_
        refine JE_nextS_ret ?_
        refine JE_block_ret ?_
        refine JE_then_ret ?_
        refine JE_ret (vs := [_]) [] Tryd.results13 ⟨rfl, rfl⟩ ?_ ?_
        · rw [show fewB nw l = false from decide_eq_false (fun h => by have := h.2.2 k (by omega); omega)]; exact ⟨rfl, rfl⟩
        · exact all_nil
      · refine JL_pick_f rfl rfl ?_
        refine JL_done_up 38 [] [_] rfl rfl (by simp only [nrmF]; rfl) rfl rfl ?_
        refine JC_false rfl ?_
        refine JC_skip ?_
        refine JE_block_normal ?_
        refine JE_then ?_
        refine JC_region ?_
        refine JL_move rfl ?_
        refine JL_add_to rfl rfl (IntWalk.i64_in _ (by omega)) ?_
        refine JL_assign rfl ?_
        refine JL_nil_up 38 [] [_] rfl rfl (by simp only [nrmF]; rfl) rfl rfl ?_
        refine JE_nextS (k + 1) (by kernel_rfl) ?_ ?_ (by kernel_rfl) ?_
        · exact ⟨by omega, fun i hi => by
          by_cases h : i = k
          · subst h; exact ⟨by omega, by omega⟩
          · exact hok i (by omega)⟩
        · first | omega | (dsimp only; omega)
        · exact subset_app subset_nil ss0
  · refine JL_done_up 38 [] [_] rfl rfl (by simp only [nrmF]; rfl) rfl rfl ?_
    refine JC_false rfl ?_
    refine JC_exit ?_
    refine JE_then_exit ?_
    refine JE_nextS_exit ?_
    refine JE_block_exit ?_
    refine JE_then ?_
    refine JC_seq ?_
    refine JC_region ?_
    refine JL_move rfl ?_
    refine JL_len sl54 rfl ?_
    refine JL_leq rfl rfl ?_
    refine JL_split (fun h32 => ?_) (fun h32 => ?_)
    · refine JL_move rfl ?_
      refine JL_guard_yes rfl rfl ?_
      refine JL_move rfl ?_
      refine JL_guard_yes rfl rfl ?_
      refine JL_len sl61 rfl ?_
      refine JL_guard_yes rfl rfl ?_
      refine JL_leq rfl rfl ?_
      refine JL_split (fun h36 => ?_) (fun h36 => ?_)
      · refine JL_pick_t rfl rfl ?_
        refine JL_assign rfl ?_
        refine JL_done_up 38 [] [_] rfl rfl (by simp only [nrmF]; rfl) rfl rfl ?_
        refine JC_ret ?_
        refine JE_ret (vs := [_]) [] Tryd.results13 ⟨rfl, rfl⟩ ?_ ?_
        · rw [show fewB nw l = true from decide_eq_true ⟨by omega, by omega, fun i hi => hok i (by omega)⟩]; exact ⟨rfl, rfl⟩
        · exact all_nil
      · refine JL_pick_t rfl rfl ?_
        refine JL_assign rfl ?_
        refine JL_done_up 38 [] [_] rfl rfl (by simp only [nrmF]; rfl) rfl rfl ?_
        refine JC_ret ?_
        refine JE_ret (vs := [_]) [] Tryd.results13 ⟨rfl, rfl⟩ ?_ ?_
        · rw [show fewB nw l = false from decide_eq_false (fun h => by have := h.1; have := h.2.1; omega)]; exact ⟨rfl, rfl⟩
        · exact all_nil
    · refine JL_move rfl ?_
      refine JL_guard_no rfl rfl ?_
      refine JL_guard_no rfl rfl ?_
      refine JL_guard_no rfl rfl ?_
      refine JL_pick_f rfl rfl ?_
      refine JL_assign rfl ?_
      refine JL_done_up 38 [] [_] rfl rfl (by simp only [nrmF]; rfl) rfl rfl ?_
      refine JC_ret ?_
      refine JE_ret (vs := [_]) [] Tryd.results13 ⟨rfl, rfl⟩ ?_ ?_
      · rw [show fewB nw l = false from decide_eq_false (fun h => by have := h.1; have := h.2.1; omega)]; exact ⟨rfl, rfl⟩
      · exact all_nil

theorem chkcl_con {w : Int} :
    ConF Tryd.prog 69 [.int .i64 w] []
      (fun v φo => v = .bool (!decide (wOk w)) ∧ φo = []) := by
  refine ConF_of Tryd.func69 rfl 6 _ rfl rfl ?_
  intro w0
  refine JC_norm ⟨6, [], [_, _, _, _, _, _]⟩ [] [] rfl rfl rfl ?_
  refine JC_seq ?_
  refine JC_region ?_
  refine JL_assign rfl ?_
  refine JL_done_up 6 [] [] rfl rfl (by simp only [nrmF]; rfl) rfl rfl ?_
  refine JC_seq ?_
  refine JC_region ?_
  refine JL_move rfl ?_
  refine JL_callF' Asks.nil (iwt_con) rfl ca30 ⟨rfl, rfl⟩ ?_
  rintro _ _ ⟨rfl, rfl⟩
  refine JL_not rfl ?_
  refine JL_assign rfl ?_
  refine JL_done_up 6 [] [] rfl rfl (by simp only [nrmF]; rfl) rfl rfl ?_
  refine JC_ret ?_
  refine JE_ret (vs := [_]) [] Tryd.results69 ⟨rfl, rfl⟩ ?_ ?_
  · exact ⟨rfl, rfl⟩
  · exact all_nil

theorem icheck_con {ad : Option Addr} {c : Nat} {L : List Int} :
    ConF Tryd.prog 48 [.slice ad L.length c] [vCells ad (i64s L)]
      (fun v φo => v = .int .i64 (chkE L) ∧ φo = []) := by
  refine ConF_of Tryd.func48 rfl 8 _ rfl rfl ?_
  intro w0
  refine JC_norm ⟨8, [], [_, _, _, _, _, _, _, _]⟩ [] [_] rfl rfl rfl ?_
  refine JC_seq ?_
  refine JC_region ?_
  refine JL_assign rfl ?_
  refine JL_done_up 8 [] [_] rfl rfl (by simp only [nrmF]; rfl) rfl rfl ?_
  refine JC_seq ?_
  refine JC_seq ?_
  refine JC_region ?_
  refine JL_move rfl ?_
  refine JL_len sl54 rfl ?_
  refine JL_gtr rfl rfl ?_
  refine JL_split (fun h5 => ?_) (fun h5 => ?_)
  · refine JL_done_up 8 [] [_] rfl rfl (by simp only [nrmF]; rfl) rfl rfl ?_
    refine JC_true rfl ?_
    refine JC_seq ?_
    refine JC_region ?_
    refine JL_assign rfl ?_
    refine JL_done_up 8 [] [_] rfl rfl (by simp only [nrmF]; rfl) rfl rfl ?_
    refine JC_ret ?_
    refine JE_then_ret ?_
    refine JE_ret (vs := [_]) [] Tryd.results48 ⟨rfl, rfl⟩ ?_ ?_
    · rw [chkE_long (by omega)]; exact ⟨rfl, rfl⟩
    · exact all_nil
  · refine JL_done_up 8 [] [_] rfl rfl (by simp only [nrmF]; rfl) rfl rfl ?_
    refine JC_false rfl ?_
    refine JC_skip ?_
    refine JE_then ?_
    refine JC_seq ?_
    refine JC_seq ?_
    refine JC_region ?_
    refine JL_move rfl ?_
    refine JL_callF' (Asks.cons (holds_of_mem (by repeat (first | with_reducible exact mm0 | refine mmS ?_))) (Asks.cons (Asks.list (l := []) Asks.nil) Asks.nil)) (contI_con (f := 69) (caps := []) (vc := vList []) (by kernel_rfl) (fun k => !decide (wOk (L.getD k 0))) (by omega) (fun k hk => (chkcl_con (w := L.getD k 0)).views (fun w h p hp => absurd hp List.not_mem_nil))) rfl ca68 ⟨rfl, rfl, rfl⟩ ?_
    rintro _ _ ⟨rfl, rfl⟩
    refine JL_splitV (fun h7 => ?_) (fun h7 => ?_)
    · refine JL_done_up 8 [] [_] rfl rfl (by simp only [nrmF]; rfl) rfl rfl ?_
      refine JC_true rfl ?_
      refine JC_seq ?_
      refine JC_region ?_
      refine JL_assign rfl ?_
      refine JL_done_up 8 [] [_] rfl rfl (by simp only [nrmF]; rfl) rfl rfl ?_
      refine JC_ret ?_
      refine JE_then_ret ?_
      refine JE_ret (vs := [_]) [] Tryd.results48 ⟨rfl, rfl⟩ ?_ ?_
      · rw [chkE_bad (by omega) h7]; exact ⟨rfl, rfl⟩
      · exact all_nil
    · refine JL_done_up 8 [] [_] rfl rfl (by simp only [nrmF]; rfl) rfl rfl ?_
      refine JC_false rfl ?_
      refine JC_skip ?_
      refine JE_then ?_
      refine JC_seq ?_
      refine JC_region ?_
      refine JL_assign rfl ?_
      refine JL_done_up 8 [] [_] rfl rfl (by simp only [nrmF]; rfl) rfl rfl ?_
      refine JC_ret ?_
      refine JE_ret (vs := [_]) [] Tryd.results48 ⟨rfl, rfl⟩ ?_ ?_
      · rw [chkE_ok (by omega) (ne_true_of_eq_false h7)]; exact ⟨rfl, rfl⟩
      · exact all_nil

end Go.Fw.K
