/- Walks through functions of the given program: each meets its contract. (Printed by a program of this repo.) -/
import Derived.Test.YtjdojhhngganeaaGreatDoorD3
import Derived.Test.YtjdojhhngganeaaGreatDoorDgM
import Derived.Test.YtjdojhhngganeaaGreatDoorProg
namespace Go.Fw.D12
open Go Go.RowKit Go.Proofs Go.Nat9 Go.Fw
attribute [local irreducible] JC JL JE
theorem mixed : Tryz.prog.follows .mixedOrders = true := by kernel_rfl
theorem sl22 : slOf Tryz.prog 22 = some (53, 2, 16, [.int .i64 0, .int .i64 0]) := by kernel_rfl
theorem sl29 : slOf Tryz.prog 29 = some (44, 2, 16, [.int .i64 0, .int .i64 0]) := by kernel_rfl
theorem ty44 : tyOf Tryz.prog 44 = some (true, 2) := by kernel_rfl
end Go.Fw.D12
namespace Go.Fw.K
open Go Go.RowKit Go.Proofs Go.Nat9 Go.Fw Go.Fw.D12
attribute [local irreducible] JC JL JE

theorem few_con {ad : Option Addr} {c : Nat} {l : List Pr} {n : Int} :
    ConF Tryz.prog 11 [.int .i64 n, .slice ad l.length c] []
      (fun v φo => v = .bool (decide ((n ≤ 5 ∨ 10 < n) ∧ l.length ≤ 60)) ∧ φo = []) := by
  refine ConF_of Tryz.func11 rfl 16 _ rfl rfl ?_; intro w0; refine JC_norm ⟨16, [], [_, _, _, _, _, _, _, _, _, _, _, _, _, _, _, _]⟩ [] [] rfl rfl rfl ?_; refine JC_sr ?_; refine JL_assign rfl ?_; refine JL_du 16 [] [] ?_; refine JC_seq ?_
  rcases few3 n with hA | ⟨hA, hB⟩ | ⟨hA, hB⟩
  · refine JC_region ?_; refine JL_m ?_; refine JL_leq rfl rfl ?_; rw [decide_eq_true (p := n ≤ 5) (by omega)]; refine JL_m ?_; refine JL_gn ?_; refine JL_gn ?_; refine JL_pick_t rfl rfl ?_; refine JL_m ?_; refine JL_gy ?_; refine JL_m ?_; refine JL_gy ?_; refine JL_len sl22 rfl ?_; refine JL_gy ?_; refine JL_leq rfl rfl ?_; refine JL_split (fun h14 => ?_) (fun h14 => ?_)
    · refine JL_pick_t rfl rfl ?_; refine JL_assign rfl ?_; refine JL_du 16 [] [] ?_; refine JC_ret ?_; refine JE_ret (vs := [_]) [] Tryz.results11 ⟨rfl, rfl⟩ ?_ ?_
      · rw [show decide ((n ≤ 5 ∨ 10 < n) ∧ l.length ≤ 60) = true from decide_eq_true ⟨by omega, by omega⟩]; exact ⟨rfl, rfl⟩
      · exact all_nil
    · refine JL_pick_t rfl rfl ?_; refine JL_assign rfl ?_; refine JL_du 16 [] [] ?_; refine JC_ret ?_; refine JE_ret (vs := [_]) [] Tryz.results11 ⟨rfl, rfl⟩ ?_ ?_
      · rw [show decide ((n ≤ 5 ∨ 10 < n) ∧ l.length ≤ 60) = false from decide_eq_false (fun h => by omega)]; exact ⟨rfl, rfl⟩
      · exact all_nil
  · refine JC_region ?_; refine JL_m ?_; refine JL_leq rfl rfl ?_; rw [decide_eq_false (p := n ≤ 5) (by omega)]; refine JL_m ?_; refine JL_gy ?_; refine JL_m ?_; refine JL_gy ?_; refine JL_gtr rfl rfl ?_; rw [decide_eq_true (p := 10 < n) (by omega)]; refine JL_pick_f rfl rfl ?_; refine JL_m ?_; refine JL_gy ?_; refine JL_m ?_; refine JL_gy ?_; refine JL_len sl22 rfl ?_; refine JL_gy ?_; refine JL_leq rfl rfl ?_; refine JL_split (fun h14 => ?_) (fun h14 => ?_)
    · refine JL_pick_t rfl rfl ?_; refine JL_assign rfl ?_; refine JL_du 16 [] [] ?_; refine JC_ret ?_; refine JE_ret (vs := [_]) [] Tryz.results11 ⟨rfl, rfl⟩ ?_ ?_
      · rw [show decide ((n ≤ 5 ∨ 10 < n) ∧ l.length ≤ 60) = true from decide_eq_true ⟨by omega, by omega⟩]; exact ⟨rfl, rfl⟩
      · exact all_nil
    · refine JL_pick_t rfl rfl ?_; refine JL_assign rfl ?_; refine JL_du 16 [] [] ?_; refine JC_ret ?_; refine JE_ret (vs := [_]) [] Tryz.results11 ⟨rfl, rfl⟩ ?_ ?_
      · rw [show decide ((n ≤ 5 ∨ 10 < n) ∧ l.length ≤ 60) = false from decide_eq_false (fun h => by omega)]; exact ⟨rfl, rfl⟩
      · exact all_nil
  · refine JC_region ?_; refine JL_m ?_; refine JL_leq rfl rfl ?_; rw [decide_eq_false (p := n ≤ 5) (by omega)]; refine JL_m ?_; refine JL_gy ?_; refine JL_m ?_; refine JL_gy ?_; refine JL_gtr rfl rfl ?_; rw [decide_eq_false (p := 10 < n) (by omega)]; refine JL_pick_f rfl rfl ?_; refine JL_m ?_; refine JL_gn ?_; refine JL_gn ?_; refine JL_gn ?_; refine JL_pick_f rfl rfl ?_; refine JL_assign rfl ?_; refine JL_du 16 [] [] ?_; refine JC_ret ?_; refine JE_ret (vs := [_]) [] Tryz.results11 ⟨rfl, rfl⟩ ?_ ?_
    · rw [show decide ((n ≤ 5 ∨ 10 < n) ∧ l.length ≤ 60) = false from decide_eq_false (fun h => by omega)]; exact ⟨rfl, rfl⟩
    · exact all_nil

theorem bpairs_con {ad1 ad2 : Option Addr} {c1 c2 : Nat} {l : List Pr} (hln : l.length ≤ 1000000) :
    ConF Tryz.prog 19 [.slice ad1 l.length c1, .slice ad2 l.length c2] [vCells ad1 (pcells l), vCells ad2 (pcells l)]
      (fun v φo => v = .bool (true) ∧ φo = []) := by
  refine ConF_of Tryz.func19 rfl 26 _ rfl rfl ?_; intro w0; refine JC_norm ⟨26, [], [_, _, _, _, _, _, _, _, _, _, _, _, _, _, _, _, _, _, _, _, _, _, _, _, _, _]⟩ [] [_, _] rfl rfl rfl ?_; refine JC_sr ?_; refine JL_assign rfl ?_; refine JL_du 26 [] [_, _] ?_; refine JC_seq ?_; refine JC_sr ?_; refine JL_m ?_; refine JL_len sl29 rfl ?_; refine JL_m ?_; refine JL_len sl29 rfl ?_; refine JL_neq rfl rfl ?_; refine JL_split (fun h10 => ?_) (fun h10 => ?_)
  · exact absurd rfl h10
  · refine JL_du 26 [] [_, _] ?_; refine JC_false rfl ?_; refine JC_skip ?_; refine JE_then ?_; refine JC_seq ?_; refine JC_sr ?_; refine JL_assign rfl ?_; refine JL_du 26 [] [_, _] ?_; refine JC_block ?_; refine JC_loopS ((Nat)) (fun (k : Nat) => k ≤ l.length) (fun (k : Nat) => l.length - k) (fun u (k : Nat) => [none, none, none, none, some (u 4), some (.int .i64 (k : Nat)), none, none, none, none, none, some (u 11), some (u 12), some (u 13), some (u 14), some (u 15), some (u 16), some (u 17), some (u 18), some (u 19), some (u 20), some (u 21), some (u 22), some (u 23), some (u 24), some (u 25)]) (fun (k : Nat) => []) (fun (k : Nat) => []) (0) (by kernel_rfl) ?_ (by kernel_rfl) ?_ ?_
    · exact Nat.zero_le _
    · exact subset_nil
    intro u k hk; refine JC_nm 26 [] [_, _] ?_; refine JC_seq ?_; refine JC_sr ?_; refine JL_m ?_; refine JL_m ?_; refine JL_len sl29 rfl ?_; refine JL_lss rfl rfl ?_; refine JL_split (fun h14 => ?_) (fun h14 => ?_)
    · refine JL_du 26 [] [_, _] ?_; refine JC_true rfl ?_; refine JC_skip ?_; refine JE_then ?_; refine JC_seq ?_; refine JC_block ?_; refine JC_seq ?_; refine JC_drawT mixed 8 [spV 17 [] _, spV 18 [] _, spV 19 [0, 1] _, spV 20 [2] _, spV 21 [] _, spV 22 [] _, spV 23 [4, 5] _, spV 24 [6] _] ⟨oM, oM, OblS_V (fun vals ex ψ => (by refine JL_normQ _ (_ :: _ :: ψ) rfl rfl ?_; refine JL_indexAddr k sl29 rfl rfl rfl (by omega) (by first | exact Reads.view am) (by rw [pcells_length]; omega) ?_; exact vz rfl)), OblS_V (fun vals ex ψ => (by refine JL_normQ _ (_ :: _ :: ψ) rfl rfl ?_; refine JL_loadEA (vs := [_, _]) ty44 (Nat.zero_lt_succ _) rfl (by first | exact Reads.view am) (pcells_getA (by omega)) ?_; exact vz rfl)), oM, oM, OblS_V (fun vals ex ψ => (by refine JL_normQ _ (_ :: _ :: ψ) rfl rfl ?_; refine JL_indexAddr k sl29 rfl rfl rfl (by omega) (by first | exact Reads.view am) (by rw [pcells_length]; omega) ?_; exact vz rfl)), OblS_V (fun vals ex ψ => (by refine JL_normQ _ (_ :: _ :: ψ) rfl rfl ?_; refine JL_loadEA (vs := [_, _]) ty44 (Nat.zero_lt_succ _) rfl (by first | exact Reads.view am) (pcells_getA (by omega)) ?_; exact vz rfl)), trivial⟩ (by kernel_rfl) (fun vals bs => ?_)
      refine JL_normL [_] ⟨26, [(17, _), (18, _), (19, _), (20, _), (21, _), (22, _), (23, _), (24, _)], _⟩ [] [_, _] rfl rfl rfl rfl ?_; refine JL_neqP eqPair rfl rfl ?_; refine JL_split (fun h25 => ?_) (fun h25 => ?_)
      · exact absurd rfl h25
      · refine JL_du 26 [] [_, _] ?_; refine JC_false rfl ?_; refine JC_skip ?_; refine JE_block_normal ?_; refine JE_then ?_; refine JC_region ?_; refine JL_m ?_; refine JL_add_to rfl rfl (IntWalk.i64_in _ (by omega)) ?_; refine JL_assign rfl ?_; refine JL_nu 26 [] [_, _] ?_; refine JE_nextS (k + 1) (by kernel_rfl) ?_ ?_ (by kernel_rfl) ?_
        · exact (by omega : k + 1 ≤ l.length)
        · first | omega | (dsimp only; omega)
        · exact subset_app subset_nil ss0
    · refine JL_du 26 [] [_, _] ?_; refine JC_false rfl ?_; refine JC_exit ?_; refine JE_then_exit ?_; refine JE_nextS_exit ?_; refine JE_block_exit ?_; refine JE_then ?_; refine JC_sr ?_; refine JL_assign rfl ?_; refine JL_du 26 [] [_, _] ?_; refine JC_ret ?_; refine JE_ret (vs := [_]) [] Tryz.results19 ⟨rfl, rfl⟩ ?_ ?_
      · exact ⟨rfl, rfl⟩
      · exact all_nil

end Go.Fw.K
