/- Walks through functions of the given program: each meets its contract. (Printed by a program of this repo.) -/
import Derived.Test.YthaepkealhkkmaaQ12
import Derived.Test.YthaepkealhkkmaaProg
namespace Go.Fw.Q13
open Go Go.RowKit Go.Proofs Go.Nat9 Go.Fw
attribute [local irreducible] JC JL JE
theorem sl28 : slOf Try.prog 28 = some (3, 1, 8, [.int .i64 0]) := by kernel_rfl
theorem ty3 : tyOf Try.prog 3 = some (false, 1) := by kernel_rfl
end Go.Fw.Q13
namespace Go.Fw.K
open Go Go.RowKit Go.Proofs Go.Nat9 Go.Fw Go.Fw.Q13
attribute [local irreducible] JC JL JE

theorem has_con {ad : Option Addr} {c : Nat} {L : List Int} {x : Int} (hln : L.length ≤ 1000000) :
    ConF Try.prog 30 [.slice ad L.length c, .int .i64 x] [vCells ad (i64s L)]
      (fun v φo => v = .bool (decide (x ∈ L)) ∧ φo = []) := by
  refine ConF_of Try.func30 rfl 18 _ rfl rfl ?_
  intro w0
  refine JC_norm ⟨18, [], [_, _, _, _, _, _, _, _, _, _, _, _, _, _, _, _, _, _]⟩ [] [_] rfl rfl rfl ?_
  refine JC_seq ?_
  refine JC_region ?_
  refine JL_assign rfl ?_
  refine JL_done_up 18 [] [_] rfl rfl (by simp only [nrmF]; rfl) rfl rfl ?_
  refine JC_seq ?_
  refine JC_seq ?_
  refine JC_region ?_
  refine JL_assign rfl ?_
  refine JL_done_up 18 [] [_] rfl rfl (by simp only [nrmF]; rfl) rfl rfl ?_
  refine JC_block ?_
  refine JC_loopS ((Nat)) (fun (k : Nat) => k ≤ L.length ∧ ∀ j, j < k → L.getD j 0 ≠ x) (fun (k : Nat) => L.length - k) (fun u (k : Nat) => [none, none, none, none, some (u 4), some (.int .i64 (k : Nat)), some (u 6), some (u 7), some (u 8), some (u 9), some (u 10), some (u 11), some (u 12), some (u 13), some (u 14), some (u 15), some (u 16), some (u 17)]) (fun (k : Nat) => []) (fun (k : Nat) => []) (0) (by kernel_rfl) ?_ (by kernel_rfl) ?_ ?_
  · exact ⟨Nat.zero_le _, fun j hj => absurd hj (Nat.not_lt_zero j)⟩
  · exact subset_nil
  intro u k hC
  obtain ⟨hk, hj⟩ := hC
  refine JC_norm ⟨18, [], [_, _, _, _, _, _, _, _, _, _, _, _, _, _, _, _, _, _]⟩ [] [_] rfl rfl rfl ?_
  refine JC_seq ?_
  refine JC_seq ?_
  refine JC_region ?_
  refine JL_move rfl ?_
  refine JL_move rfl ?_
  refine JL_len sl28 rfl ?_
  refine JL_lss rfl rfl ?_
  refine JL_split (fun h9 => ?_) (fun h9 => ?_)
  · refine JL_done_up 18 [] [_] rfl rfl (by simp only [nrmF]; rfl) rfl rfl ?_
    refine JC_true rfl ?_
    refine JC_skip ?_
    refine JE_then ?_
    refine JC_seq ?_
    refine JC_block ?_
    refine JC_seq ?_
    refine JC_region ?_
    refine JL_move rfl ?_
    refine JL_move rfl ?_
    refine JL_idx k sl28 rfl rfl rfl (by omega) (by first | exact Reads.view (by repeat (first | with_reducible exact mm0 | refine mmS ?_))) (by first | (rw [u32s_length]; omega) | (rw [i64s_length]; omega)) ?_
    refine JL_loadE ty3 rfl (by first | exact Reads.view (by repeat (first | with_reducible exact mm0 | refine mmS ?_))) (i64s_get (by omega)) ?_
    refine JL_move rfl ?_
    refine JL_eql rfl rfl ?_
    refine JL_split (fun h17 => ?_) (fun h17 => ?_)
    · refine JL_done_up 18 [] [_] rfl rfl (by simp only [nrmF]; rfl) rfl rfl ?_
      refine JC_true rfl ?_
      refine JC_seq ?_
      refine JC_region ?_
      refine JL_assign rfl ?_
      refine JL_done_up 18 [] [_] rfl rfl (by simp only [nrmF]; rfl) rfl rfl ?_
      refine JC_ret ?_
      refine JE_block_ret ?_
      refine JE_then_ret ?_
      refine JE_nextS_ret ?_
      refine JE_block_ret ?_
      refine JE_then_ret ?_
      refine JE_ret (vs := [_]) [] Try.results30 ⟨rfl, rfl⟩ ?_ ?_
      · rw [decide_eq_true (p := x ∈ L) (h17 ▸ getD_memI (by omega))]; exact ⟨rfl, rfl⟩
      · exact all_nil
    · refine JL_done_up 18 [] [_] rfl rfl (by simp only [nrmF]; rfl) rfl rfl ?_
      refine JC_false rfl ?_
      refine JC_skip ?_
      refine JE_block_normal ?_
      refine JE_then ?_
      refine JC_region ?_
      refine JL_move rfl ?_
      refine JL_add_to rfl rfl (IntWalk.i64_in _ (by omega)) ?_
      refine JL_assign rfl ?_
      refine JL_nil_up 18 [] [_] rfl rfl (by simp only [nrmF]; rfl) rfl rfl ?_
      refine JE_nextS (k + 1) (by kernel_rfl) ?_ ?_ (by kernel_rfl) ?_
      · exact ⟨by omega, fun j hj2 => by
        by_cases h : j = k
        · subst h; exact h17
        · exact hj j (by omega)⟩
      · first | omega | (dsimp only; omega)
      · exact subset_app subset_nil ss0
  · refine JL_done_up 18 [] [_] rfl rfl (by simp only [nrmF]; rfl) rfl rfl ?_
    refine JC_false rfl ?_
    refine JC_exit ?_
    refine JE_then_exit ?_
    refine JE_nextS_exit ?_
    refine JE_block_exit ?_
    refine JE_then ?_
    refine JC_seq ?_
    refine JC_region ?_
    refine JL_assign rfl ?_
    refine JL_done_up 18 [] [_] rfl rfl (by simp only [nrmF]; rfl) rfl rfl ?_
    refine JC_ret ?_
    refine JE_ret (vs := [_]) [] Try.results30 ⟨rfl, rfl⟩ ?_ ?_
    · rw [decide_eq_false (p := x ∈ L) (no_mem (fun j h => hj j (by omega)))]; exact ⟨rfl, rfl⟩
    · exact all_nil

theorem hasT_con {ad : Option Addr} {c : Nat} {L : List Int} {x : Int} (hln : L.length ≤ 1000000) (h : x ∈ L) : ConF Try.prog 30 [.slice ad L.length c, .int .i64 x] [vCells ad (i64s L)] (fun v φo => v = .bool true ∧ φo = []) := by
  have e := has_con (ad := ad) (c := c) (L := L) (x := x) hln
  rw [decide_eq_true h] at e
  exact e
theorem hasF_con {ad : Option Addr} {c : Nat} {L : List Int} {x : Int} (hln : L.length ≤ 1000000) (h : ¬ x ∈ L) : ConF Try.prog 30 [.slice ad L.length c, .int .i64 x] [vCells ad (i64s L)] (fun v φo => v = .bool false ∧ φo = []) := by
  have e := has_con (ad := ad) (c := c) (L := L) (x := x) hln
  rw [decide_eq_false h] at e
  exact e


end Go.Fw.K
