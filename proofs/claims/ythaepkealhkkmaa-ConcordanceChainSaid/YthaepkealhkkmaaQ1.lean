/- Walks through functions of the given program: each meets its contract. (Printed by a program of this repo.) -/
import Derived.Test.YthaepkealhkkmaaCcE
import Derived.Test.YthaepkealhkkmaaCcB
import Derived.Test.YthaepkealhkkmaaProg
namespace Go.Fw.Q1
open Go Go.RowKit Go.Proofs Go.Nat9 Go.Fw
attribute [local irreducible] JC JL JE
theorem ca49 : callable Try.prog 49 = true := by kernel_rfl
theorem ca54 : callable Try.prog 54 = true := by kernel_rfl
theorem ca55 : callable Try.prog 55 = true := by kernel_rfl
theorem ca66 : callable Try.prog 66 = true := by kernel_rfl
theorem fo51_0 : fOf Try.prog 51 0 = some 0 := by kernel_rfl
theorem fo51_1 : fOf Try.prog 51 1 = some 1 := by kernel_rfl
theorem mixed : Try.prog.follows .mixedOrders = true := by kernel_rfl
theorem sl28 : slOf Try.prog 28 = some (3, 1, 8, [.int .i64 0]) := by kernel_rfl
theorem ty3 : tyOf Try.prog 3 = some (false, 1) := by kernel_rfl
end Go.Fw.Q1
namespace Go.Fw.K
open Go Go.RowKit Go.Proofs Go.Nat9 Go.Fw Go.Fw.Q1
attribute [local irreducible] JC JL JE

theorem num_con {n : Int} :
    ConF Try.prog 39 [.int .i64 n] []
      (fun v φo => v = .bool (decide (numOk n)) ∧ φo = []) := by
  refine ConF_of Try.func39 rfl 9 _ rfl rfl ?_
  intro w0
  refine JC_norm ⟨9, [], [_, _, _, _, _, _, _, _, _]⟩ [] [] rfl rfl rfl ?_
  refine JC_seq ?_
  refine JC_region ?_
  refine JL_assign rfl ?_
  refine JL_done_up 9 [] [] rfl rfl (by simp only [nrmF]; rfl) rfl rfl ?_
  refine JC_seq ?_
  refine JC_region ?_
  refine JL_move rfl ?_
  refine JL_geq rfl rfl ?_
  refine JL_split (fun h4 => ?_) (fun h4 => ?_)
  · refine JL_move rfl ?_
    refine JL_guard_yes rfl rfl ?_
    refine JL_move rfl ?_
    refine JL_guard_yes rfl rfl ?_
    refine JL_leq rfl rfl ?_
    refine JL_split (fun h7 => ?_) (fun h7 => ?_)
    · refine JL_pick_t rfl rfl ?_
      refine JL_assign rfl ?_
      refine JL_done_up 9 [] [] rfl rfl (by simp only [nrmF]; rfl) rfl rfl ?_
      refine JC_ret ?_
      refine JE_ret (vs := [_]) [] Try.results39 ⟨rfl, rfl⟩ ?_ ?_
      · rw [decide_eq_true (p := numOk n) ⟨by omega, by omega⟩]; exact ⟨rfl, rfl⟩
      · exact all_nil
    · refine JL_pick_t rfl rfl ?_
      refine JL_assign rfl ?_
      refine JL_done_up 9 [] [] rfl rfl (by simp only [nrmF]; rfl) rfl rfl ?_
      refine JC_ret ?_
      refine JE_ret (vs := [_]) [] Try.results39 ⟨rfl, rfl⟩ ?_ ?_
      · rw [decide_eq_false (p := numOk n) (fun h => by obtain ⟨a, b⟩ := h; omega)]; exact ⟨rfl, rfl⟩
      · exact all_nil
  · refine JL_move rfl ?_
    refine JL_guard_no rfl rfl ?_
    refine JL_guard_no rfl rfl ?_
    refine JL_pick_f rfl rfl ?_
    refine JL_assign rfl ?_
    refine JL_done_up 9 [] [] rfl rfl (by simp only [nrmF]; rfl) rfl rfl ?_
    refine JC_ret ?_
    refine JE_ret (vs := [_]) [] Try.results39 ⟨rfl, rfl⟩ ?_ ?_
    · rw [decide_eq_false (p := numOk n) (fun h => by obtain ⟨a, b⟩ := h; omega)]; exact ⟨rfl, rfl⟩
    · exact all_nil

theorem bin_con {n lo hi : Int} :
    ConF Try.prog 49 [.int .i64 n, .int .i64 lo, .int .i64 hi] []
      (fun v φo => v = .bool (decide (lo ≤ n ∧ n ≤ hi)) ∧ φo = []) := by
  refine ConF_of Try.func49 rfl 15 _ rfl rfl ?_
  intro w0
  refine JC_norm ⟨15, [], [_, _, _, _, _, _, _, _, _, _, _, _, _, _, _]⟩ [] [] rfl rfl rfl ?_
  refine JC_seq ?_
  refine JC_region ?_
  refine JL_assign rfl ?_
  refine JL_done_up 15 [] [] rfl rfl (by simp only [nrmF]; rfl) rfl rfl ?_
  refine JC_seq ?_
  refine JC_region ?_
  refine JL_move rfl ?_
  refine JL_move rfl ?_
  refine JL_geq rfl rfl ?_
  refine JL_split (fun h9 => ?_) (fun h9 => ?_)
  · refine JL_move rfl ?_
    refine JL_guard_yes rfl rfl ?_
    refine JL_move rfl ?_
    refine JL_guard_yes rfl rfl ?_
    refine JL_move rfl ?_
    refine JL_guard_yes rfl rfl ?_
    refine JL_leq rfl rfl ?_
    refine JL_split (fun h13 => ?_) (fun h13 => ?_)
    · refine JL_pick_t rfl rfl ?_
      refine JL_assign rfl ?_
      refine JL_done_up 15 [] [] rfl rfl (by simp only [nrmF]; rfl) rfl rfl ?_
      refine JC_ret ?_
      refine JE_ret (vs := [_]) [] Try.results49 ⟨rfl, rfl⟩ ?_ ?_
      · rw [decide_eq_true (by omega)]; exact ⟨rfl, rfl⟩
      · exact all_nil
    · refine JL_pick_t rfl rfl ?_
      refine JL_assign rfl ?_
      refine JL_done_up 15 [] [] rfl rfl (by simp only [nrmF]; rfl) rfl rfl ?_
      refine JC_ret ?_
      refine JE_ret (vs := [_]) [] Try.results49 ⟨rfl, rfl⟩ ?_ ?_
      · rw [decide_eq_false (by omega)]; exact ⟨rfl, rfl⟩
      · exact all_nil
  · refine JL_move rfl ?_
    refine JL_guard_no rfl rfl ?_
    refine JL_guard_no rfl rfl ?_
    refine JL_guard_no rfl rfl ?_
    refine JL_pick_f rfl rfl ?_
    refine JL_assign rfl ?_
    refine JL_done_up 15 [] [] rfl rfl (by simp only [nrmF]; rfl) rfl rfl ?_
    refine JC_ret ?_
    refine JE_ret (vs := [_]) [] Try.results49 ⟨rfl, rfl⟩ ?_ ?_
    · rw [decide_eq_false (by omega)]; exact ⟨rfl, rfl⟩
    · exact all_nil

theorem bnum_con {n : Int} :
    ConF Try.prog 41 [.int .i64 n] []
      (fun v φo => v = .bool (decide (numOk n)) ∧ φo = []) := by
  refine ConF_of Try.func41 rfl 5 _ rfl rfl ?_
  intro w0
  refine JC_norm ⟨5, [], [_, _, _, _, _]⟩ [] [] rfl rfl rfl ?_
  refine JC_seq ?_
  refine JC_region ?_
  refine JL_assign rfl ?_
  refine JL_done_up 5 [] [] rfl rfl (by simp only [nrmF]; rfl) rfl rfl ?_
  refine JC_seq ?_
  refine JC_region ?_
  refine JL_move rfl ?_
  refine JL_callF' Asks.nil (bin_con (n := n) (lo := 1) (hi := 999)) rfl ca49 ⟨rfl, rfl, rfl, rfl⟩ ?_
  rintro _ _ ⟨rfl, rfl⟩
  refine JL_assign rfl ?_
  refine JL_done_up 5 [] [] rfl rfl (by simp only [nrmF]; rfl) rfl rfl ?_
  refine JC_ret ?_
  refine JE_ret (vs := [_]) [] Try.results41 ⟨rfl, rfl⟩ ?_ ?_
  · exact ⟨rfl, rfl⟩
  · exact all_nil

theorem numT_con {n : Int} (h : numOk n) : ConF Try.prog 39 [.int .i64 n] [] (fun v φo => v = .bool true ∧ φo = []) := by
  have e := num_con (n := n)
  rw [decide_eq_true h] at e
  exact e
theorem numF_con {n : Int} (h : ¬ numOk n) : ConF Try.prog 39 [.int .i64 n] [] (fun v φo => v = .bool false ∧ φo = []) := by
  have e := num_con (n := n)
  rw [decide_eq_false h] at e
  exact e
theorem bnumT_con {n : Int} (h : numOk n) : ConF Try.prog 41 [.int .i64 n] [] (fun v φo => v = .bool true ∧ φo = []) := by
  have e := bnum_con (n := n)
  rw [decide_eq_true h] at e
  exact e
theorem bnumF_con {n : Int} (h : ¬ numOk n) : ConF Try.prog 41 [.int .i64 n] [] (fun v φo => v = .bool false ∧ φo = []) := by
  have e := bnum_con (n := n)
  rw [decide_eq_false h] at e
  exact e


theorem nan_con {n : Int} :
    ConF Try.prog 66 [.int .i64 n] []
      (fun v φo => v = .bool (false) ∧ φo = []) := by
  refine ConF_of Try.func66 rfl 6 _ rfl rfl ?_
  intro w0
  refine JC_norm ⟨6, [], [_, _, _, _, _, _]⟩ [] [] rfl rfl rfl ?_
  refine JC_seq ?_
  refine JC_region ?_
  refine JL_assign rfl ?_
  refine JL_done_up 6 [] [] rfl rfl (by simp only [nrmF]; rfl) rfl rfl ?_
  refine JC_seq ?_
  refine JC_region ?_
  refine JL_move rfl ?_
  refine JL_move rfl ?_
  refine JL_neq rfl rfl ?_
  rw [decide_eq_false (p := n ≠ n) (fun h => h rfl)]
  refine JL_assign rfl ?_
  refine JL_done_up 6 [] [] rfl rfl (by simp only [nrmF]; rfl) rfl rfl ?_
  refine JC_ret ?_
  refine JE_ret (vs := [_]) [] Try.results66 ⟨rfl, rfl⟩ ?_ ?_
  · exact ⟨rfl, rfl⟩
  · exact all_nil

theorem cmp_con {a b : Int} :
    ConF Try.prog 55 [.int .i64 a, .int .i64 b] []
      (fun v φo => v = .int .i64 (cmpI a b) ∧ φo = []) := by
  refine ConF_of Try.func55 rfl 20 _ rfl rfl ?_
  intro w0
  refine JC_norm ⟨20, [], [_, _, _, _, _, _, _, _, _, _, _, _, _, _, _, _, _, _, _, _]⟩ [] [] rfl rfl rfl ?_
  refine JC_seq ?_
  refine JC_region ?_
  refine JL_assign rfl ?_
  refine JL_done_up 20 [] [] rfl rfl (by simp only [nrmF]; rfl) rfl rfl ?_
  refine JC_seq ?_
  refine JC_region ?_
  refine JL_move rfl ?_
  refine JL_callF' Asks.nil (nan_con) rfl ca66 ⟨rfl, rfl⟩ ?_
  rintro _ _ ⟨rfl, rfl⟩
  refine JL_assign rfl ?_
  refine JL_done_up 20 [] [] rfl rfl (by simp only [nrmF]; rfl) rfl rfl ?_
  refine JC_seq ?_
  refine JC_region ?_
  refine JL_move rfl ?_
  refine JL_callF' Asks.nil (nan_con) rfl ca66 ⟨rfl, rfl⟩ ?_
  rintro _ _ ⟨rfl, rfl⟩
  refine JL_assign rfl ?_
  refine JL_done_up 20 [] [] rfl rfl (by simp only [nrmF]; rfl) rfl rfl ?_
  refine JC_seq ?_
  refine JC_seq ?_
  refine JC_region ?_
  refine JL_move rfl ?_
  refine JL_done_up 20 [] [] rfl rfl (by simp only [nrmF]; rfl) rfl rfl ?_
  refine JC_false rfl ?_
  refine JC_skip ?_
  refine JE_then ?_
  refine JC_seq ?_
  refine JC_seq ?_
  refine JC_region ?_
  refine JL_move rfl ?_
  refine JL_done_up 20 [] [] rfl rfl (by simp only [nrmF]; rfl) rfl rfl ?_
  refine JC_false rfl ?_
  refine JC_skip ?_
  refine JE_then ?_
  refine JC_seq ?_
  refine JC_seq ?_
  refine JC_region ?_
  refine JL_move rfl ?_
  refine JL_move rfl ?_
  refine JL_lss rfl rfl ?_
  refine JL_split (fun h16 => ?_) (fun h16 => ?_)
  · refine JL_done_up 20 [] [] rfl rfl (by simp only [nrmF]; rfl) rfl rfl ?_
    refine JC_true rfl ?_
    refine JC_seq ?_
    refine JC_region ?_
    refine JL_assign rfl ?_
    refine JL_done_up 20 [] [] rfl rfl (by simp only [nrmF]; rfl) rfl rfl ?_
    refine JC_ret ?_
    refine JE_then_ret ?_
    refine JE_ret (vs := [_]) [] Try.results55 ⟨rfl, rfl⟩ ?_ ?_
    · rw [show cmpI a b = -1 from if_pos h16]; exact ⟨rfl, rfl⟩
    · exact all_nil
  · refine JL_done_up 20 [] [] rfl rfl (by simp only [nrmF]; rfl) rfl rfl ?_
    refine JC_false rfl ?_
    refine JC_skip ?_
    refine JE_then ?_
    refine JC_seq ?_
    refine JC_seq ?_
    refine JC_region ?_
    refine JL_move rfl ?_
    refine JL_move rfl ?_
    refine JL_gtr rfl rfl ?_
    refine JL_split (fun h19 => ?_) (fun h19 => ?_)
    · refine JL_done_up 20 [] [] rfl rfl (by simp only [nrmF]; rfl) rfl rfl ?_
      refine JC_true rfl ?_
      refine JC_seq ?_
      refine JC_region ?_
      refine JL_assign rfl ?_
      refine JL_done_up 20 [] [] rfl rfl (by simp only [nrmF]; rfl) rfl rfl ?_
      refine JC_ret ?_
      refine JE_then_ret ?_
      refine JE_ret (vs := [_]) [] Try.results55 ⟨rfl, rfl⟩ ?_ ?_
      · rw [show cmpI a b = 1 from by unfold cmpI; rw [if_neg h16, if_pos h19]]; exact ⟨rfl, rfl⟩
      · exact all_nil
    · refine JL_done_up 20 [] [] rfl rfl (by simp only [nrmF]; rfl) rfl rfl ?_
      refine JC_false rfl ?_
      refine JC_skip ?_
      refine JE_then ?_
      refine JC_seq ?_
      refine JC_region ?_
      refine JL_assign rfl ?_
      refine JL_done_up 20 [] [] rfl rfl (by simp only [nrmF]; rfl) rfl rfl ?_
      refine JC_ret ?_
      refine JE_ret (vs := [_]) [] Try.results55 ⟨rfl, rfl⟩ ?_ ?_
      · rw [show cmpI a b = 0 from by unfold cmpI; rw [if_neg h16, if_neg h19]]; exact ⟨rfl, rfl⟩
      · exact all_nil

theorem or2_con {ad : Option Addr} {c : Nat} {a b : Int} :
    ConF Try.prog 54 [.slice ad 2 c] [vCells ad (i64s [a, b])]
      (fun v φo => v = .int .i64 (or2 (a) (b)) ∧ φo = []) := by
  refine ConF_of Try.func54 rfl 18 _ rfl rfl ?_
  intro w0
  refine JC_norm ⟨18, [], [_, _, _, _, _, _, _, _, _, _, _, _, _, _, _, _, _, _]⟩ [] [_] rfl rfl rfl ?_
  refine JC_seq ?_
  refine JC_region ?_
  refine JL_assign rfl ?_
  refine JL_done_up 18 [] [_] rfl rfl (by simp only [nrmF]; rfl) rfl rfl ?_
  refine JC_seq ?_
  refine JC_region ?_
  refine JL_assign rfl ?_
  refine JL_done_up 18 [] [_] rfl rfl (by simp only [nrmF]; rfl) rfl rfl ?_
  refine JC_seq ?_
  refine JC_seq ?_
  refine JC_region ?_
  refine JL_move rfl ?_
  refine JL_len sl28 rfl ?_
  refine JL_move rfl ?_
  refine JL_done_up 18 [] [_] rfl rfl (by simp only [nrmF]; rfl) rfl rfl ?_
  refine JC_block ?_
  refine JC_loopS ((Nat)) (fun (k : Nat) => k ≤ 2 ∧ (0 < k → a = 0) ∧ (1 < k → b = 0)) (fun (k : Nat) => 2 - k) (fun u (k : Nat) => [none, none, some (u 2), none, none, some (u 5), none, none, some (.int .i64 (k : Nat)), some (u 9), some (u 10), some (u 11), some (u 12), some (u 13), some (u 14), some (u 15), some (u 16), none]) (fun (k : Nat) => []) (fun (k : Nat) => []) (0) (by kernel_rfl) ?_ (by kernel_rfl) ?_ ?_
  · exact ⟨Nat.zero_le _, by omega, by omega⟩
  · exact subset_nil
  intro u k hC
  obtain ⟨hk, h0, h1⟩ := hC
  refine JC_norm ⟨18, [], [_, _, _, _, _, _, _, _, _, _, _, _, _, _, _, _, _, _]⟩ [] [_] rfl rfl rfl ?_
  refine JC_seq ?_
  refine JC_region ?_
  refine JL_lss rfl rfl ?_
  refine JL_split (fun h9 => ?_) (fun h9 => ?_)
  · refine JL_done_up 18 [] [_] rfl rfl (by simp only [nrmF]; rfl) rfl rfl ?_
    refine JC_seq ?_
    refine JC_true rfl ?_
    refine JC_skip ?_
    refine JE_then ?_
    refine JC_seq ?_
    refine JC_block ?_
    refine JC_seq ?_
    refine JC_region ?_
    refine JL_idx k sl28 rfl rfl rfl (by omega) (by first | exact Reads.view (by repeat (first | with_reducible exact mm0 | refine mmS ?_))) (by rw [i64s_length]; simp only [List.length_cons, List.length_nil]; omega) ?_
    refine JL_loadE ty3 rfl (by first | exact Reads.view (by repeat (first | with_reducible exact mm0 | refine mmS ?_))) (i64s_get (by simp only [List.length_cons, List.length_nil]; omega)) ?_
    refine JL_assign rfl ?_
    refine JL_done_up 18 [] [_] rfl rfl (by simp only [nrmF]; rfl) rfl rfl ?_
    refine JC_seq ?_
    refine JC_region ?_
    refine JL_move rfl ?_
    refine JL_move rfl ?_
    refine JL_neq rfl rfl ?_
    refine JL_split (fun h14 => ?_) (fun h14 => ?_)
    · refine JL_done_up 18 [] [_] rfl rfl (by simp only [nrmF]; rfl) rfl rfl ?_
      refine JC_true rfl ?_
      refine JC_seq ?_
      refine JC_region ?_
      refine JL_move rfl ?_
      refine JL_assign rfl ?_
      refine JL_done_up 18 [] [_] rfl rfl (by simp only [nrmF]; rfl) rfl rfl ?_
      refine JC_ret ?_
      refine JE_block_ret ?_
      refine JE_then_ret ?_
      refine JE_nextS_ret ?_
      refine JE_block_ret ?_
      refine JE_then_ret ?_
      refine JE_ret (vs := [_]) [] Try.results54 ⟨rfl, rfl⟩ ?_ ?_
      · rw [or2_hit (by omega) h0 h14]; exact ⟨rfl, rfl⟩
      · exact all_nil
    · refine JL_done_up 18 [] [_] rfl rfl (by simp only [nrmF]; rfl) rfl rfl ?_
      refine JC_false rfl ?_
      refine JC_skip ?_
      refine JE_block_normal ?_
      refine JE_then ?_
      refine JC_region ?_
      refine JL_add_to rfl rfl (IntWalk.i64_in _ (by omega)) ?_
      refine JL_move rfl ?_
      refine JL_nil_up 18 [] [_] rfl rfl (by simp only [nrmF]; rfl) rfl rfl ?_
      refine JE_nextS (k + 1) (by kernel_rfl) ?_ ?_ (by kernel_rfl) ?_
      · exact ⟨by omega, fun h => by
        rcases Nat.eq_zero_or_pos k with e | e
        · subst e; exact Classical.byContradiction h14
        · exact h0 e, fun h => by
        have e : k = 1 := by omega
        subst e; exact Classical.byContradiction h14⟩
      · first | omega | (dsimp only; omega)
      · exact subset_app subset_nil ss0
  · refine JL_done_up 18 [] [_] rfl rfl (by simp only [nrmF]; rfl) rfl rfl ?_
    refine JC_seq ?_
    refine JC_false rfl ?_
    refine JC_exit ?_
    refine JE_then_exit ?_
    refine JE_nextS_exit ?_
    refine JE_block_exit ?_
    refine JE_then ?_
    refine JC_seq ?_
    refine JC_region ?_
    refine JL_move rfl ?_
    refine JL_assign rfl ?_
    refine JL_done_up 18 [] [_] rfl rfl (by simp only [nrmF]; rfl) rfl rfl ?_
    refine JC_ret ?_
    refine JE_ret (vs := [_]) [] Try.results54 ⟨rfl, rfl⟩ ?_ ?_
    · rw [or2_miss (h0 (by omega)) (h1 (by omega))]; exact ⟨rfl, rfl⟩
    · exact all_nil

theorem order_con {p q : Pr} :
    ConF Try.prog 40 [pv p, pv q] []
      (fun v φo => v = .int .i64 (cmpPr p q) ∧ φo = []) := by
  refine ConF_of Try.func40 rfl 17 _ rfl rfl ?_
  intro w0
  refine JC_norm ⟨17, [], [_, _, _, _, _, _, _, _, _, _, _, _, _, _, _, _, _]⟩ [] [] rfl rfl rfl ?_
  refine JC_seq ?_
  refine JC_region ?_
  refine JL_box rfl rfl (fun b2 => ?_)
  refine JL_box rfl rfl (fun b3 => ?_)
  refine JL_assign rfl ?_
  refine JL_done_up 17 [box _ _ [_, _], box _ _ [_, _]] [] rfl rfl (by simp only [nrmF]; rfl) rfl rfl ?_
  refine JC_seq ?_
  refine JC_drawT mixed 9 [spV 5 [] _, spV 6 [0] _, spV 7 [] _, spV 8 [2] _, spC 9 [1, 3] _, spV 10 [] _, spV 11 [5] _, spV 12 [] _, spV 13 [7] _] ⟨OblS_V (fun vals ex ψ => (by
      refine JL_normQ ⟨17, [(5, _), (6, _), (7, _), (8, _), (9, _), (10, _), (11, _), (12, _), (13, _)], _⟩ (ψ) rfl rfl ?_
      refine JL_fieldAddr fo51_0 rfl ?_
      exact JL_nil (JE_stepV rfl ss0))), OblS_V (fun vals ex ψ => (by
      refine JL_normQ ⟨17, [(5, _), (6, _), (7, _), (8, _), (9, _), (10, _), (11, _), (12, _), (13, _)], _⟩ (ψ) rfl rfl ?_
      refine JL_load 0 ty3 rfl rfl rfl ?_
      exact JL_nil (JE_stepV rfl ss0))), OblS_V (fun vals ex ψ => (by
      refine JL_normQ ⟨17, [(5, _), (6, _), (7, _), (8, _), (9, _), (10, _), (11, _), (12, _), (13, _)], _⟩ (ψ) rfl rfl ?_
      refine JL_fieldAddr fo51_0 rfl ?_
      exact JL_nil (JE_stepV rfl ss0))), OblS_V (fun vals ex ψ => (by
      refine JL_normQ ⟨17, [(5, _), (6, _), (7, _), (8, _), (9, _), (10, _), (11, _), (12, _), (13, _)], _⟩ (ψ) rfl rfl ?_
      refine JL_load 1 ty3 rfl rfl rfl ?_
      exact JL_nil (JE_stepV rfl ss0))), OblS_C (fun vals ex ψ => (by
      refine JL_normQ ⟨17, [(5, _), (6, _), (7, _), (8, _), (9, _), (10, _), (11, _), (12, _), (13, _)], _⟩ (ψ) rfl rfl ?_
      refine JL_callF' Asks.nil (cmp_con (a := p.1) (b := q.1)) rfl ca55 ⟨rfl, rfl, rfl⟩ ?_
      exact fun v φo hP => JL_nil (JE_stepC φo rfl hP (fun p hp => mapB_l hp) (fun p hp => mapB_r (ss0 p hp))))), OblS_V (fun vals ex ψ => (by
      refine JL_normQ ⟨17, [(5, _), (6, _), (7, _), (8, _), (9, _), (10, _), (11, _), (12, _), (13, _)], _⟩ (ψ) rfl rfl ?_
      refine JL_fieldAddr fo51_1 rfl ?_
      exact JL_nil (JE_stepV rfl ss0))), OblS_V (fun vals ex ψ => (by
      refine JL_normQ ⟨17, [(5, _), (6, _), (7, _), (8, _), (9, _), (10, _), (11, _), (12, _), (13, _)], _⟩ (ψ) rfl rfl ?_
      refine JL_load 0 ty3 rfl rfl rfl ?_
      exact JL_nil (JE_stepV rfl ss0))), OblS_V (fun vals ex ψ => (by
      refine JL_normQ ⟨17, [(5, _), (6, _), (7, _), (8, _), (9, _), (10, _), (11, _), (12, _), (13, _)], _⟩ (ψ) rfl rfl ?_
      refine JL_fieldAddr fo51_1 rfl ?_
      exact JL_nil (JE_stepV rfl ss0))), OblS_V (fun vals ex ψ => (by
      refine JL_normQ ⟨17, [(5, _), (6, _), (7, _), (8, _), (9, _), (10, _), (11, _), (12, _), (13, _)], _⟩ (ψ) rfl rfl ?_
      refine JL_load 1 ty3 rfl rfl rfl ?_
      exact JL_nil (JE_stepV rfl ss0))), trivial⟩ (by kernel_rfl) (fun vals bs => ?_)
  refine JL_normL [_, _, _, _] ⟨17, [(5, _), (6, _), (7, _), (8, _), (9, _), (10, _), (11, _), (12, _), (13, _)], _⟩ [box _ _ [_, _], box _ _ [_, _]] [_] rfl rfl rfl rfl ?_
  generalize vals (0 + 1 + 1 + 1 + 1) = x9
  refine JL_usePost mm0 (fun φo hP => ?_)
  obtain ⟨rfl, rfl⟩ := hP
  refine JL_norm _ [box _ _ [_, _], box _ _ [_, _]] [_] rfl rfl rfl ?_
  refine JL_callF' Asks.nil (cmp_con (a := p.2) (b := q.2)) rfl ca55 ⟨rfl, rfl, rfl⟩ ?_
  rintro _ _ ⟨rfl, rfl⟩
  refine JL_buildN (cs0 := [.int .i64 0, .int .i64 0]) (cs := [_, _]) [(0, [_]), (1, [_])] sl28 (by kernel_rfl) ⟨⟨rfl, _, rfl, rfl⟩, ⟨rfl, _, rfl, rfl⟩, rfl⟩ rfl rfl rfl rfl (fun g15 => ?_)
  refine JL_norm _ [box _ _ [_, _], box _ _ [_, _], osl _ _ _ _ _ (i64s ([cmpI p.1 q.1, cmpI p.2 q.2]))] [_] rfl rfl rfl ?_
  refine JL_callF' (Asks.cons (by first | exact holds_of_mem (by repeat (first | with_reducible exact mm0 | refine mmS ?_)) | (exact holds_of_own 2 rfl)) Asks.nil) (or2_con (a := cmpI p.1 q.1) (b := cmpI p.2 q.2)) rfl ca54 ⟨rfl, rfl⟩ ?_
  rintro _ _ ⟨rfl, rfl⟩
  refine JL_assign rfl ?_
  refine JL_done_up 17 [box _ _ [_, _], box _ _ [_, _], osl _ _ _ _ _ _] [_] rfl rfl (by simp only [nrmF]; rfl) rfl rfl ?_
  refine JC_ret ?_
  refine JE_ret (vs := [_]) [] Try.results40 ⟨rfl, rfl⟩ ?_ ?_
  · exact ⟨rfl, rfl⟩
  · exact all_nil

theorem bef_con {p q : Pr} :
    ConF Try.prog 42 [pv p, pv q] []
      (fun v φo => v = .bool (decide (ltP p q)) ∧ φo = []) := by
  refine ConF_of Try.func42 rfl 24 _ rfl rfl ?_
  intro w0
  refine JC_norm ⟨24, [], [_, _, _, _, _, _, _, _, _, _, _, _, _, _, _, _, _, _, _, _, _, _, _, _]⟩ [] [] rfl rfl rfl ?_
  refine JC_seq ?_
  refine JC_region ?_
  refine JL_box rfl rfl (fun b2 => ?_)
  refine JL_box rfl rfl (fun b3 => ?_)
  refine JL_assign rfl ?_
  refine JL_done_up 24 [box _ _ [_, _], box _ _ [_, _]] [] rfl rfl (by simp only [nrmF]; rfl) rfl rfl ?_
  refine JC_seq ?_
  refine JC_region ?_
  refine JL_fieldAddr fo51_0 rfl ?_
  refine JL_load 0 ty3 rfl rfl rfl ?_
  refine JL_fieldAddr fo51_0 rfl ?_
  refine JL_load 1 ty3 rfl rfl rfl ?_
  refine JL_lss rfl rfl ?_
  refine JL_split (fun h9 => ?_) (fun h9 => ?_)
  · refine JL_move rfl ?_
    refine JL_guard_no rfl rfl ?_
    refine JL_guard_no rfl rfl ?_
    refine JL_guard_no rfl rfl ?_
    refine JL_guard_no rfl rfl ?_
    refine JL_guard_no rfl rfl ?_
    refine JL_guard_no rfl rfl ?_
    refine JL_guard_un rfl rfl ?_
    refine JL_guard_un rfl rfl ?_
    refine JL_guard_un rfl rfl ?_
    refine JL_guard_un rfl rfl ?_
    refine JL_guard_un rfl rfl ?_
    refine JL_guard_no rfl rfl ?_
    refine JL_pick_t rfl rfl ?_
    refine JL_assign rfl ?_
    refine JL_done_up 24 [box _ _ [_, _], box _ _ [_, _]] [] rfl rfl (by simp only [nrmF]; rfl) rfl rfl ?_
    refine JC_ret ?_
    refine JE_ret (vs := [_]) [] Try.results42 ⟨rfl, rfl⟩ ?_ ?_
    · rw [decide_eq_true (p := ltP p q) (.inl h9)]; exact ⟨rfl, rfl⟩
    · exact all_nil
  · refine JL_move rfl ?_
    refine JL_guard_yes rfl rfl ?_
    refine JL_fieldAddr fo51_0 rfl ?_
    refine JL_guard_yes rfl rfl ?_
    refine JL_load 0 ty3 rfl rfl rfl ?_
    refine JL_guard_yes rfl rfl ?_
    refine JL_fieldAddr fo51_0 rfl ?_
    refine JL_guard_yes rfl rfl ?_
    refine JL_load 1 ty3 rfl rfl rfl ?_
    refine JL_guard_yes rfl rfl ?_
    refine JL_eql rfl rfl ?_
    refine JL_split (fun h15 => ?_) (fun h15 => ?_)
    · refine JL_guard_yes rfl rfl ?_
      refine JL_move rfl ?_
      refine JL_guard_yes rfl rfl ?_
      refine JL_fieldAddr fo51_1 rfl ?_
      refine JL_guard_yes rfl rfl ?_
      refine JL_load 0 ty3 rfl rfl rfl ?_
      refine JL_guard_yes rfl rfl ?_
      refine JL_fieldAddr fo51_1 rfl ?_
      refine JL_guard_yes rfl rfl ?_
      refine JL_load 1 ty3 rfl rfl rfl ?_
      refine JL_guard_yes rfl rfl ?_
      refine JL_lss rfl rfl ?_
      refine JL_split (fun h21 => ?_) (fun h21 => ?_)
      · refine JL_guard_yes rfl rfl ?_
        refine JL_pick_t rfl rfl ?_
        refine JL_pick_f rfl rfl ?_
        refine JL_assign rfl ?_
        refine JL_done_up 24 [box _ _ [_, _], box _ _ [_, _]] [] rfl rfl (by simp only [nrmF]; rfl) rfl rfl ?_
        refine JC_ret ?_
        refine JE_ret (vs := [_]) [] Try.results42 ⟨rfl, rfl⟩ ?_ ?_
        · rw [decide_eq_true (p := ltP p q) (.inr ⟨h15, h21⟩)]; exact ⟨rfl, rfl⟩
        · exact all_nil
      · refine JL_guard_yes rfl rfl ?_
        refine JL_pick_t rfl rfl ?_
        refine JL_pick_f rfl rfl ?_
        refine JL_assign rfl ?_
        refine JL_done_up 24 [box _ _ [_, _], box _ _ [_, _]] [] rfl rfl (by simp only [nrmF]; rfl) rfl rfl ?_
        refine JC_ret ?_
        refine JE_ret (vs := [_]) [] Try.results42 ⟨rfl, rfl⟩ ?_ ?_
        · rw [decide_eq_false (p := ltP p q) (fun h => h.elim h9 (fun h => h21 h.2))]; exact ⟨rfl, rfl⟩
        · exact all_nil
    · refine JL_guard_yes rfl rfl ?_
      refine JL_move rfl ?_
      refine JL_guard_no rfl rfl ?_
      refine JL_guard_no rfl rfl ?_
      refine JL_guard_no rfl rfl ?_
      refine JL_guard_no rfl rfl ?_
      refine JL_guard_no rfl rfl ?_
      refine JL_guard_yes rfl rfl ?_
      refine JL_pick_f rfl rfl ?_
      refine JL_pick_f rfl rfl ?_
      refine JL_assign rfl ?_
      refine JL_done_up 24 [box _ _ [_, _], box _ _ [_, _]] [] rfl rfl (by simp only [nrmF]; rfl) rfl rfl ?_
      refine JC_ret ?_
      refine JE_ret (vs := [_]) [] Try.results42 ⟨rfl, rfl⟩ ?_ ?_
      · rw [decide_eq_false (p := ltP p q) (fun h => h.elim h9 (fun h => h15 h.1))]; exact ⟨rfl, rfl⟩
      · exact all_nil

theorem befT_con {p q : Pr} (h : ltP p q) : ConF Try.prog 42 [pv p, pv q] [] (fun v φo => v = .bool true ∧ φo = []) := by
  have e := bef_con (p := p) (q := q)
  rw [decide_eq_true h] at e
  exact e
theorem befF_con {p q : Pr} (h : ¬ ltP p q) : ConF Try.prog 42 [pv p, pv q] [] (fun v φo => v = .bool false ∧ φo = []) := by
  have e := bef_con (p := p) (q := q)
  rw [decide_eq_false h] at e
  exact e


end Go.Fw.K
