/- Walks through functions of the given program: each meets its contract. (Printed by a program of this repo.) -/
import Derived.Test.YtgnljjdcbfijnaaDoorS6
import Derived.Test.YtgnljjdcbfijnaaDoorStdJ
import Derived.Test.YtgnljjdcbfijnaaDoorProg
namespace Go.Fw.S17
open Go Go.RowKit Go.Proofs Go.Nat9 Go.Fw
attribute [local irreducible] JC JL JE
theorem sl95 : slOf Tryd.prog 95 = some (26, 1, 8, [.int .i64 0]) := by kernel_rfl
theorem ty26 : tyOf Tryd.prog 26 = some (false, 1) := by kernel_rfl
end Go.Fw.S17
namespace Go.Fw.K
open Go Go.RowKit Go.Proofs Go.Nat9 Go.Fw Go.Fw.S17
attribute [local irreducible] JC JL JE

theorem or_con {ad : Option Addr} {c : Nat} {L : List Int} (hn : L.length ≤ 1000000) :
    ConF Tryd.prog 49 [.slice ad L.length c] [vCells ad (i64s L)]
      (fun v φo => v = .int .i64 (firstNZ L) ∧ φo = []) := by
  refine ConF_of Tryd.func49 rfl 18 _ rfl rfl ?_
  intro w0
  refine JC_norm ⟨18, [], [_, _, _, _, _, _, _, _, _, _, _, _, _, _, _, _, _, _]⟩ [] [_] rfl rfl rfl ?_
  refine JC_seq ?_
  refine JC_region ?_
  refine JL_assign rfl ?_
  refine JL_done_up 18 [] [_] rfl rfl (by simp only [nrmF]; rfl) rfl rfl ?_
  refine JC_seq ?_
  refine JC_region ?_
  refine JL_assign rfl ?_
  refine JL_done_up 18 [] [_] rfl rfl (by simp only [nrmF]; rfl) rfl rfl ?_
  refine JC_seq ?_
  refine JC_seq ?_
  refine JC_region ?_
  refine JL_move rfl ?_
  refine JL_len sl95 rfl ?_
  refine JL_move rfl ?_
  refine JL_done_up 18 [] [_] rfl rfl (by simp only [nrmF]; rfl) rfl rfl ?_
  refine JC_block ?_
  refine JC_loopS ((Nat)) (fun (k : Nat) => k ≤ L.length ∧ ∀ j, j < k → L.getD j 0 = 0) (fun (k : Nat) => L.length - k) (fun u (k : Nat) => [none, none, some (u 2), none, none, some (u 5), none, none, some (.int .i64 (k : Nat)), some (u 9), some (u 10), some (u 11), some (u 12), some (u 13), some (u 14), some (u 15), some (u 16), none]) (fun (k : Nat) => []) (fun (k : Nat) => []) (0) (by kernel_rfl) ?_ (by kernel_rfl) ?_ ?_
  · exact ⟨Nat.zero_le _, fun j hj => absurd hj (Nat.not_lt_zero _)⟩
  · exact subset_nil
  intro u k hC
  obtain ⟨hk, hz⟩ := hC
  refine JC_norm ⟨18, [], [_, _, _, _, _, _, _, _, _, _, _, _, _, _, _, _, _, _]⟩ [] [_] rfl rfl rfl ?_
  refine JC_seq ?_
  refine JC_region ?_
  refine JL_lss rfl rfl ?_
  refine JL_split (fun h9 => ?_) (fun h9 => ?_)
  · refine JL_done_up 18 [] [_] rfl rfl (by simp only [nrmF]; rfl) rfl rfl ?_
    refine JC_seq ?_
    refine JC_true rfl ?_
    refine JC_skip ?_
    refine JE_then ?_
    refine JC_seq ?_
    refine JC_block ?_
    refine JC_seq ?_
    refine JC_region ?_
    refine JL_idx k sl95 rfl rfl rfl (by omega) (by first | exact Reads.view (by repeat (first | with_reducible exact mm0 | refine mmS ?_))) (by first | (rw [u32s_length]; omega) | (rw [i64s_length]; omega)) ?_
    refine JL_loadE ty26 rfl (by first | exact Reads.view (by repeat (first | with_reducible exact mm0 | refine mmS ?_))) (i64s_get (by omega)) ?_
    refine JL_assign rfl ?_
    refine JL_done_up 18 [] [_] rfl rfl (by simp only [nrmF]; rfl) rfl rfl ?_
    refine JC_seq ?_
    refine JC_region ?_
    refine JL_move rfl ?_
    refine JL_move rfl ?_
    refine JL_neq rfl rfl ?_
    refine JL_split (fun h14 => ?_) (fun h14 => ?_)
    · refine JL_done_up 18 [] [_] rfl rfl (by simp only [nrmF]; rfl) rfl rfl ?_
      refine JC_true rfl ?_
      refine JC_seq ?_
      refine JC_region ?_
      refine JL_move rfl ?_
      refine JL_assign rfl ?_
      refine JL_done_up 18 [] [_] rfl rfl (by simp only [nrmF]; rfl) rfl rfl ?_
      refine JC_ret ?_
      refine JE_block_ret ?_
      refine JE_then_ret ?_
      refine JE_nextS_ret ?_
      refine JE_block_ret ?_
      refine JE_then_ret ?_
      refine JE_ret (vs := [_]) [] Tryd.results49 ⟨rfl, rfl⟩ ?_ ?_
      · rw [firstNZ_hit (k := k) (by omega) hz h14]; exact ⟨rfl, rfl⟩
      · exact all_nil
    · refine JL_done_up 18 [] [_] rfl rfl (by simp only [nrmF]; rfl) rfl rfl ?_
      refine JC_false rfl ?_
      refine JC_skip ?_
      refine JE_block_normal ?_
      refine JE_then ?_
      refine JC_region ?_
      refine JL_add_to rfl rfl (IntWalk.i64_in _ (by omega)) ?_
      refine JL_move rfl ?_
      refine JL_nil_up 18 [] [_] rfl rfl (by simp only [nrmF]; rfl) rfl rfl ?_
      refine JE_nextS (k + 1) (by kernel_rfl) ?_ ?_ (by kernel_rfl) ?_
      · exact ⟨by omega, fun j hj => by
        by_cases h : j = k
        · subst h; exact Classical.byContradiction h14
        · exact hz j (by omega)⟩
      · first | omega | (dsimp only; omega)
      · exact subset_app subset_nil ss0
  · refine JL_done_up 18 [] [_] rfl rfl (by simp only [nrmF]; rfl) rfl rfl ?_
    refine JC_seq ?_
    refine JC_false rfl ?_
    refine JC_exit ?_
    refine JE_then_exit ?_
    refine JE_nextS_exit ?_
    refine JE_block_exit ?_
    refine JE_then ?_
    refine JC_seq ?_
    refine JC_region ?_
    refine JL_move rfl ?_
    refine JL_assign rfl ?_
    refine JL_done_up 18 [] [_] rfl rfl (by simp only [nrmF]; rfl) rfl rfl ?_
    refine JC_ret ?_
    refine JE_ret (vs := [_]) [] Tryd.results49 ⟨rfl, rfl⟩ ?_ ?_
    · rw [firstNZ_miss (fun j hj => hz j (by omega))]; exact ⟨rfl, rfl⟩
    · exact all_nil

end Go.Fw.K
