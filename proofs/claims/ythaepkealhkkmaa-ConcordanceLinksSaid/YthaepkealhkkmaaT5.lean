/- Walks through functions of the given program: each meets its contract. (Printed by a program of this repo.) -/
import Derived.Test.YthaepkealhkkmaaQ13
import Derived.Test.YthaepkealhkkmaaCcF
import Derived.Test.YthaepkealhkkmaaProg
namespace Go.Fw.T5
open Go Go.RowKit Go.Proofs Go.Nat9 Go.Fw
attribute [local irreducible] JC JL JE
theorem ca10 : callable Try.prog 10 = true := by kernel_rfl
theorem ca11 : callable Try.prog 11 = true := by kernel_rfl
theorem ca18 : callable Try.prog 18 = true := by kernel_rfl
theorem ca26 : callable Try.prog 26 = true := by kernel_rfl
theorem ca30 : callable Try.prog 30 = true := by kernel_rfl
theorem mixed : Try.prog.follows .mixedOrders = true := by kernel_rfl
theorem sl22 : slOf Try.prog 22 = some (51, 2, 16, [.int .i64 0, .int .i64 0]) := by kernel_rfl
theorem sl28 : slOf Try.prog 28 = some (3, 1, 8, [.int .i64 0]) := by kernel_rfl
theorem ty3 : tyOf Try.prog 3 = some (false, 1) := by kernel_rfl
end Go.Fw.T5
namespace Go.Fw.K
open Go Go.RowKit Go.Proofs Go.Nat9 Go.Fw Go.Fw.T5
attribute [local irreducible] JC JL JE

set_option maxHeartbeats 4000000 in
set_option maxRecDepth 20000 in
theorem concordanceLinks_con {ad1 ad2 : Option Addr} {c1 c2 : Nat} {l m : List Pr} (hc1 : l.length ≤ c1 ∧ c1 ≤ 9223372036854775807) (hc2 : m.length ≤ c2 ∧ c2 ≤ 9223372036854775807) {n : Int} (hn1 : -9223372036854775808 ≤ n) (hn2 : n ≤ 9223372036854775807) :
    ConF Try.prog 7 [.slice ad1 l.length c1, .slice ad2 m.length c2, .int .i64 n] [vCells ad1 (pcells l), vCells ad2 (pcells m)]
      (fun v φo => v = .bool true ∧ φo = []) := by
  have _ := hc1
  have _ := hc2
  have _ := hn1
  have _ := hn2
  refine ConF_of Try.func7 rfl 119 _ rfl rfl ?_
  intro w0
  refine JC_norm ⟨119, [], [_, _, _, _, _, _, _, _, _, _, _, _, _, _, _, _, _, _, _, _, _, _, _, _, _, _, _, _, _, _, _, _, _, _, _, _, _, _, _, _, _, _, _, _, _, _, _, _, _, _, _, _, _, _, _, _, _, _, _, _, _, _, _, _, _, _, _, _, _, _, _, _, _, _, _, _, _, _, _, _, _, _, _, _, _, _, _, _, _, _, _, _, _, _, _, _, _, _, _, _, _, _, _, _, _, _, _, _, _, _, _, _, _, _, _, _, _, _, _]⟩ [] [_, _] rfl rfl rfl ?_
  refine JC_seq ?_
  refine JC_region ?_
  refine JL_assign rfl ?_
  refine JL_done_up 119 [] [_, _] rfl rfl (by simp only [nrmF]; rfl) rfl rfl ?_
  refine JC_seq ?_
  refine JC_seq ?_
  refine JC_region ?_
  refine JL_callF' Asks.nil (awake48_con) rfl ca10 rfl ?_
  rintro _ _ ⟨rfl, rfl⟩
  refine JL_not rfl ?_
  rw [Bool.not_true]
  refine JL_move rfl ?_
  refine JL_guard_yes rfl rfl ?_
  refine JL_move rfl ?_
  refine JL_guard_yes rfl rfl ?_
  refine JL_move rfl ?_
  refine JL_guard_yes rfl rfl ?_
  refine JL_callF' Asks.nil (few_con) rfl ca11 ⟨rfl, rfl, rfl⟩ ?_
  rintro _ _ ⟨rfl, rfl⟩
  refine JL_split (fun h24 => ?_) (fun h24 => ?_)
  · refine JL_guard_yes rfl rfl ?_
    refine JL_not rfl ?_
    rw [Bool.not_true]
    refine JL_pick_f rfl rfl ?_
    refine JL_done_up 119 [] [_, _] rfl rfl (by simp only [nrmF]; rfl) rfl rfl ?_
    refine JC_false rfl ?_
    refine JC_skip ?_
    refine JE_then ?_
    refine JC_seq ?_
    have hln := h24.1
    have hmn := h24.2
    have hb1 := both_len (l) (m) (cmpL (l) (m) (l).length)
    refine JC_region ?_
    refine JL_move rfl ?_
    refine JL_move rfl ?_
    refine JL_callF' (Asks.cons (holds_of_mem (by repeat (first | with_reducible exact mm0 | refine mmS ?_))) (Asks.cons (holds_of_mem (by repeat (first | with_reducible exact mm0 | refine mmS ?_))) Asks.nil)) (compose_con (by omega) (by omega)) rfl ca26 ⟨rfl, rfl, rfl⟩ ?_
    rintro _ _ ⟨ad31, c31, rfl, hc31, rfl⟩
    refine JL_move rfl ?_
    refine JL_extract rfl rfl ?_
    refine JL_extract rfl rfl ?_
    refine JL_assign rfl ?_
    refine JL_assign rfl ?_
    refine JL_done_up 119 [] [_, _, _] rfl rfl (by simp only [nrmF]; rfl) rfl rfl ?_
    refine JC_seq ?_
    refine JC_seq ?_
    refine JC_region ?_
    refine JL_move rfl ?_
    refine JL_neq rfl rfl ?_
    refine JL_split (fun h35 => ?_) (fun h35 => ?_)
    · refine JL_done_up 119 [] [_, _, _] rfl rfl (by simp only [nrmF]; rfl) rfl rfl ?_
      refine JC_true rfl ?_
      refine JC_seq ?_
      refine JC_region ?_
      refine JL_move rfl ?_
      refine JL_len sl22 rfl ?_
      refine JL_eql rfl rfl ?_
      rw [decide_eq_true (p := (((bothR (l) (m) (cmpL (l) (m) (l).length)).length : Nat) : Int) = 0) (by rw [show bothR (l) (m) (cmpL (l) (m) (l).length) = [] from co_no h35]; rfl)]
      refine JL_assign rfl ?_
      refine JL_done_up 119 [] [_, _, _] rfl rfl (by simp only [nrmF]; rfl) rfl rfl ?_
      refine JC_ret ?_
      refine JE_then_ret ?_
      refine JE_ret (vs := [_]) [] Try.results7 ⟨rfl, rfl⟩ ?_ ?_
      · exact ⟨rfl, rfl⟩
      · exact all_nil
    · refine JL_done_up 119 [] [_, _, _] rfl rfl (by simp only [nrmF]; rfl) rfl rfl ?_
      refine JC_false rfl ?_
      refine JC_skip ?_
      refine JE_then ?_
      refine JC_seq ?_
      have he : coE l m = 0 := Classical.byContradiction h35
      obtain ⟨hvl, hvm, hvc⟩ := co_valE he
      have hl1 := lukR_len l n
      have hl2 := lukR_len (bothR (l) (m) (cmpL (l) (m) (l).length)) n
      refine JC_region ?_
      refine JL_move rfl ?_
      refine JL_move rfl ?_
      refine JL_callF' (Asks.cons (holds_of_mem (by repeat (first | with_reducible exact mm0 | refine mmS ?_))) Asks.nil) (look_con (l := bothR (l) (m) (cmpL (l) (m) (l).length)) (by omega)) rfl ca18 ⟨rfl, rfl, rfl⟩ ?_
      rintro _ _ ⟨ad42, c42, rfl, hc42, rfl⟩
      rw [show valE (bothR (l) (m) (cmpL (l) (m) (l).length)) = 0 from hvc]
      refine JL_move rfl ?_
      refine JL_extract rfl rfl ?_
      refine JL_extract rfl rfl ?_
      refine JL_assign rfl ?_
      refine JL_assign rfl ?_
      refine JL_done_up 119 [] [_, _, _, _] rfl rfl (by simp only [nrmF]; rfl) rfl rfl ?_
      refine JC_seq ?_
      refine JC_region ?_
      refine JL_move rfl ?_
      refine JL_move rfl ?_
      refine JL_callF' (Asks.cons (holds_of_mem (by repeat (first | with_reducible exact mm0 | refine mmS ?_))) Asks.nil) (look_con (l := l) (by omega)) rfl ca18 ⟨rfl, rfl, rfl⟩ ?_
      rintro _ _ ⟨ad48, c48, rfl, hc48, rfl⟩
      rw [hvl]
      refine JL_move rfl ?_
      refine JL_extract rfl rfl ?_
      refine JL_extract rfl rfl ?_
      refine JL_assign rfl ?_
      refine JL_assign rfl ?_
      refine JL_done_up 119 [] [_, _, _, _, _] rfl rfl (by simp only [nrmF]; rfl) rfl rfl ?_
      refine JC_seq ?_
      refine JC_seq ?_
      refine JC_region ?_
      refine JL_move rfl ?_
      refine JL_neq rfl rfl ?_
      rw [decide_eq_false (p := (0 : Int) ≠ 0) (by decide)]
      refine JL_move rfl ?_
      refine JL_guard_yes rfl rfl ?_
      refine JL_move rfl ?_
      refine JL_guard_yes rfl rfl ?_
      refine JL_neq rfl rfl ?_
      rw [decide_eq_false (p := (0 : Int) ≠ 0) (by decide)]
      refine JL_pick_f rfl rfl ?_
      refine JL_done_up 119 [] [_, _, _, _, _] rfl rfl (by simp only [nrmF]; rfl) rfl rfl ?_
      refine JC_false rfl ?_
      refine JC_skip ?_
      refine JE_then ?_
      refine JC_seq ?_
      refine JC_region ?_
      refine JL_assign rfl ?_
      refine JL_done_up 119 [] [_, _, _, _, _] rfl rfl (by simp only [nrmF]; rfl) rfl rfl ?_
      refine JC_seq ?_
      refine JC_seq ?_
      refine JC_region ?_
      refine JL_assign rfl ?_
      refine JL_done_up 119 [] [_, _, _, _, _] rfl rfl (by simp only [nrmF]; rfl) rfl rfl ?_
      refine JC_block ?_
      refine JC_addNil 3 1 ?_
      refine JC_norm ⟨119, [], [_, _, _, _, _, _, _, _, _, _, _, _, _, _, _, _, _, _, _, _, _, _, _, _, _, _, _, _, _, _, _, _, _, _, _, _, _, _, _, _, _, _, _, _, _, _, _, _, _, _, _, _, _, _, _, _, _, _, _, _, _, _, _, _, _, _, _, _, _, _, _, _, _, _, _, _, _, _, _, _, _, _, _, _, _, _, _, _, _, _, _, _, _, _, _, _, _, _, _, _, _, _, _, _, _, _, _, _, _, _, _, _, _, _, _, _, _, _, _]⟩ [osl _ _ _ _ _ _] [_, _, _, _, _] rfl rfl rfl ?_
      refine JC_loopS ((Nat) × (List Int) × (Option Addr) × (Nat) × (Nat)) (fun (i, r, ad5, cap5, n5) => i ≤ (lukR l n).length ∧ allL m (lukR l n) i = r ∧ r.length = n5) (fun (i, r, ad5, cap5, n5) => (lukR l n).length - i) (fun u (i, r, ad5, cap5, n5) => [none, none, none, none, none, none, some (u 6), none, none, none, none, none, none, some (.slice ad5 n5 cap5), some (.int .i64 (i : Nat)), some (u 15), some (u 16), none, none, none, none, none, none, none, none, none, none, none, none, none, none, none, none, none, none, none, none, none, none, none, none, none, none, none, none, none, none, none, none, none, none, none, none, none, none, none, none, some (u 57), some (u 58), some (u 59), some (u 60), some (u 61), some (u 62), some (u 63), some (u 64), some (u 65), some (u 66), some (u 67), some (u 68), some (u 69), some (u 70), some (u 71), some (u 72), some (u 73), some (u 74), some (u 75), some (u 76), none, none, none, none, none, none, none, none, none, none, none, none, none, none, none, none, none, none, none, none, none, none, none, none, none, none, none, none, none, none, none, none, none, none, none, none, none, none, none, none, none, none]) (fun (i, r, ad5, cap5, n5) => [some (osl ad5 n5 cap5 3 1 (i64s r))]) (fun (i, r, ad5, cap5, n5) => []) (0, [], none, 0, 0) (by kernel_rfl) ?_ (by kernel_rfl) ?_ ?_
      · exact ⟨Nat.zero_le _, rfl, rfl⟩
      · exact subset_nil
      intro u i hC
      obtain ⟨i, r, ad5, cap5, n5⟩ := i
      obtain ⟨hi, hr, hn5⟩ := hC
      refine JC_norm ⟨119, [], [_, _, _, _, _, _, _, _, _, _, _, _, _, _, _, _, _, _, _, _, _, _, _, _, _, _, _, _, _, _, _, _, _, _, _, _, _, _, _, _, _, _, _, _, _, _, _, _, _, _, _, _, _, _, _, _, _, _, _, _, _, _, _, _, _, _, _, _, _, _, _, _, _, _, _, _, _, _, _, _, _, _, _, _, _, _, _, _, _, _, _, _, _, _, _, _, _, _, _, _, _, _, _, _, _, _, _, _, _, _, _, _, _, _, _, _, _, _, _]⟩ [osl _ _ _ _ _ _] [_, _, _, _, _] rfl rfl rfl ?_
      have hal := allL_len m (lukR l n) i
      rw [hr, hn5] at hal
      have hlk := lukR_len m ((lukR l n).getD i 0)
      refine JC_seq ?_
      refine JC_seq ?_
      refine JC_region ?_
      refine JL_move rfl ?_
      refine JL_move rfl ?_
      refine JL_len sl28 rfl ?_
      refine JL_lss rfl rfl ?_
      refine JL_split (fun h60 => ?_) (fun h60 => ?_)
      · refine JL_done_up 119 [osl _ _ _ _ _ _] [_, _, _, _, _] rfl rfl (by simp only [nrmF]; rfl) rfl rfl ?_
        refine JC_true rfl ?_
        refine JC_skip ?_
        refine JE_then ?_
        refine JC_seq ?_
        refine JC_block ?_
        refine JC_seq ?_
        refine JC_region ?_
        refine JL_move rfl ?_
        refine JL_move rfl ?_
        refine JL_move rfl ?_
        refine JL_idx i sl28 rfl rfl rfl (by omega) (by first | exact Reads.view (by repeat (first | with_reducible exact mm0 | refine mmS ?_)) | (exact Reads.own 0 rfl)) (by first | (rw [u32s_length]; omega) | (rw [i64s_length]; omega)) ?_
        refine JL_loadE ty3 rfl (by first | exact Reads.view (by repeat (first | with_reducible exact mm0 | refine mmS ?_)) | (exact Reads.own 0 rfl)) (i64s_get (by omega)) ?_
        refine JL_callF' (Asks.cons (by first | exact holds_of_mem (by repeat (first | with_reducible exact mm0 | refine mmS ?_)) | (exact holds_of_own 0 rfl)) Asks.nil) (look_con (l := m) (n := (lukR l n).getD i 0) (by omega)) rfl ca18 ⟨rfl, rfl, rfl⟩ ?_
        rintro _ _ ⟨ad69, c69, rfl, hc69, rfl⟩
        rw [hvm]
        refine JL_move rfl ?_
        refine JL_extract rfl rfl ?_
        refine JL_extract rfl rfl ?_
        refine JL_assign rfl ?_
        refine JL_assign rfl ?_
        refine JL_done_up 119 [osl _ _ _ _ _ _] [_, _, _, _, _, _] rfl rfl (by simp only [nrmF]; rfl) rfl rfl ?_
        refine JC_seq ?_
        refine JC_seq ?_
        refine JC_region ?_
        refine JL_move rfl ?_
        refine JL_neq rfl rfl ?_
        rw [decide_eq_false (p := (0 : Int) ≠ 0) (by decide)]
        refine JL_done_up 119 [osl _ _ _ _ _ _] [_, _, _, _, _, _] rfl rfl (by simp only [nrmF]; rfl) rfl rfl ?_
        refine JC_false rfl ?_
        refine JC_skip ?_
        refine JE_then ?_
        refine JC_region ?_
        refine JL_move rfl ?_
        refine JL_move rfl ?_
        refine JL_appendIV (L := _) (M := _) 0 sl28 rfl rfl rfl (by first | exact Reads.view (by repeat (first | with_reducible exact mm0 | refine mmS ?_)) | (exact Reads.own 0 rfl)) (by first | rfl | assumption | (simp only [lenS]; omega)) (by omega) (by omega) (fun ad76 cap76 hc76 => ?_)
        refine JL_assign rfl ?_
        refine JL_nil_up 119 [osl _ _ _ _ _ _] [_, _, _, _, _, _] rfl rfl (by simp only [nrmF]; rfl) rfl rfl ?_
        refine JE_block_normal ?_
        refine JE_then ?_
        refine JC_region ?_
        refine JL_move rfl ?_
        refine JL_add_to rfl rfl (IntWalk.i64_in _ (by omega)) ?_
        refine JL_assign rfl ?_
        refine JL_nil_up 119 [osl _ _ _ _ _ _] [_, _, _, _, _, _] rfl rfl (by simp only [nrmF]; rfl) rfl rfl ?_
        refine JE_nextS (i + 1, r ++ lukR m ((lukR l n).getD i 0), ad76, cap76, n5 + (lukR m ((lukR l n).getD i 0)).length) (by kernel_rfl) ?_ ?_ (by kernel_rfl) ?_
        · exact ⟨by omega, by rw [allL, hr], by rw [List.length_append, hn5]⟩
        · first | omega | (dsimp only; omega)
        · exact subset_app subset_nil (ssS ss0)
      · refine JL_done_up 119 [osl _ _ _ _ _ _] [_, _, _, _, _] rfl rfl (by simp only [nrmF]; rfl) rfl rfl ?_
        refine JC_false rfl ?_
        refine JC_exit ?_
        refine JE_then_exit ?_
        refine JE_nextS_exit ?_
        refine JE_block_exit ?_
        refine JE_then ?_
        refine JC_seq ?_
        refine JC_seq ?_
        refine JC_region ?_
        refine JL_assign rfl ?_
        refine JL_done_up 119 [osl _ _ _ _ _ _] [_, _, _, _, _] rfl rfl (by simp only [nrmF]; rfl) rfl rfl ?_
        refine JC_block ?_
        have hie : i = (lukR l n).length := by omega
        rw [hie] at hr
        have hal2 := allL_len m (lukR l n) (lukR l n).length
        rw [hr] at hal2
        subst hn5
        have hin : ∀ x, x ∈ lukR (bothR (l) (m) (cmpL (l) (m) (l).length)) n ↔ x ∈ r := fun x => by rw [← hr]; exact leads he
        refine JC_give 0 rfl ?_
        refine JC_norm ⟨119, [], [_, _, _, _, _, _, _, _, _, _, _, _, _, _, _, _, _, _, _, _, _, _, _, _, _, _, _, _, _, _, _, _, _, _, _, _, _, _, _, _, _, _, _, _, _, _, _, _, _, _, _, _, _, _, _, _, _, _, _, _, _, _, _, _, _, _, _, _, _, _, _, _, _, _, _, _, _, _, _, _, _, _, _, _, _, _, _, _, _, _, _, _, _, _, _, _, _, _, _, _, _, _, _, _, _, _, _, _, _, _, _, _, _, _, _, _, _, _, _]⟩ [] [_, _, _, _, _, _] rfl rfl rfl ?_
        refine JC_loopS ((Nat)) (fun (k : Nat) => k ≤ r.length) (fun (k : Nat) => r.length - k) (fun u (k : Nat) => [none, none, none, none, none, none, some (u 6), none, none, none, none, none, none, none, none, none, none, some (.int .i64 (k : Nat)), none, none, none, none, none, none, none, none, none, none, none, none, none, none, none, none, none, none, none, none, none, none, none, none, none, none, none, none, none, none, none, none, none, none, none, none, none, none, none, none, none, none, none, none, none, none, none, none, none, none, none, none, none, none, none, none, none, none, none, some (u 77), some (u 78), some (u 79), some (u 80), some (u 81), some (u 82), some (u 83), some (u 84), some (u 85), some (u 86), some (u 87), some (u 88), some (u 89), none, none, none, none, none, none, none, none, none, none, none, none, none, none, none, none, none, none, none, none, none, none, none, none, none, none, none, none, none]) (fun (k : Nat) => []) (fun (k : Nat) => []) (0) (by kernel_rfl) ?_ (by kernel_rfl) ?_ ?_
        · exact Nat.zero_le _
        · exact subset_nil
        intro u k hk
        refine JC_norm ⟨119, [], [_, _, _, _, _, _, _, _, _, _, _, _, _, _, _, _, _, _, _, _, _, _, _, _, _, _, _, _, _, _, _, _, _, _, _, _, _, _, _, _, _, _, _, _, _, _, _, _, _, _, _, _, _, _, _, _, _, _, _, _, _, _, _, _, _, _, _, _, _, _, _, _, _, _, _, _, _, _, _, _, _, _, _, _, _, _, _, _, _, _, _, _, _, _, _, _, _, _, _, _, _, _, _, _, _, _, _, _, _, _, _, _, _, _, _, _, _, _, _]⟩ [] [_, _, _, _, _, _] rfl rfl rfl ?_
        refine JC_seq ?_
        refine JC_seq ?_
        refine JC_region ?_
        refine JL_move rfl ?_
        refine JL_move rfl ?_
        refine JL_len sl28 rfl ?_
        refine JL_lss rfl rfl ?_
        refine JL_split (fun h80 => ?_) (fun h80 => ?_)
        · refine JL_done_up 119 [] [_, _, _, _, _, _] rfl rfl (by simp only [nrmF]; rfl) rfl rfl ?_
          refine JC_true rfl ?_
          refine JC_skip ?_
          refine JE_then ?_
          refine JC_seq ?_
          refine JC_block ?_
          refine JC_seq ?_
          refine JC_region ?_
          refine JL_move rfl ?_
          refine JL_move rfl ?_
          refine JL_move rfl ?_
          refine JL_idx k sl28 rfl rfl rfl (by omega) (by first | exact Reads.view (by repeat (first | with_reducible exact mm0 | refine mmS ?_))) (by first | (rw [u32s_length]; omega) | (rw [i64s_length]; omega)) ?_
          refine JL_loadE ty3 rfl (by first | exact Reads.view (by repeat (first | with_reducible exact mm0 | refine mmS ?_))) (i64s_get (by omega)) ?_
          refine JL_callF' (Asks.cons (holds_of_mem (by repeat (first | with_reducible exact mm0 | refine mmS ?_))) Asks.nil) (hasT_con (by omega) ((hin _).2 (getD_memI (by omega)))) rfl ca30 ⟨rfl, rfl, rfl⟩ ?_
          rintro _ _ ⟨rfl, rfl⟩
          refine JL_not rfl ?_
          rw [Bool.not_true]
          refine JL_done_up 119 [] [_, _, _, _, _, _] rfl rfl (by simp only [nrmF]; rfl) rfl rfl ?_
          refine JC_false rfl ?_
          refine JC_skip ?_
          refine JE_block_normal ?_
          refine JE_then ?_
          refine JC_region ?_
          refine JL_move rfl ?_
          refine JL_add_to rfl rfl (IntWalk.i64_in _ (by omega)) ?_
          refine JL_assign rfl ?_
          refine JL_nil_up 119 [] [_, _, _, _, _, _] rfl rfl (by simp only [nrmF]; rfl) rfl rfl ?_
          refine JE_nextS (k + 1) (by kernel_rfl) ?_ ?_ (by kernel_rfl) ?_
          · exact (by omega : k + 1 ≤ r.length)
          · first | omega | (dsimp only; omega)
          · exact subset_app subset_nil ss0
        · refine JL_done_up 119 [] [_, _, _, _, _, _] rfl rfl (by simp only [nrmF]; rfl) rfl rfl ?_
          refine JC_false rfl ?_
          refine JC_exit ?_
          refine JE_then_exit ?_
          refine JE_nextS_exit ?_
          refine JE_block_exit ?_
          refine JE_then ?_
          refine JC_seq ?_
          refine JC_seq ?_
          refine JC_region ?_
          refine JL_assign rfl ?_
          refine JL_done_up 119 [] [_, _, _, _, _, _] rfl rfl (by simp only [nrmF]; rfl) rfl rfl ?_
          refine JC_block ?_
          refine JC_loopS ((Nat)) (fun (j : Nat) => j ≤ (lukR (bothR (l) (m) (cmpL (l) (m) (l).length)) n).length) (fun (j : Nat) => (lukR (bothR (l) (m) (cmpL (l) (m) (l).length)) n).length - j) (fun u (j : Nat) => [none, none, none, none, none, none, some (u 6), none, none, none, none, none, none, none, none, none, none, none, some (.int .i64 (j : Nat)), none, none, none, none, none, none, none, none, none, none, none, none, none, none, none, none, none, none, none, none, none, none, none, none, none, none, none, none, none, none, none, none, none, none, none, none, none, none, none, none, none, none, none, none, none, none, none, none, none, none, none, none, none, none, none, none, none, none, none, none, none, none, none, none, none, none, none, none, none, none, none, some (u 90), some (u 91), some (u 92), some (u 93), some (u 94), some (u 95), some (u 96), some (u 97), some (u 98), some (u 99), some (u 100), some (u 101), some (u 102), some (u 103), some (u 104), some (u 105), some (u 106), some (u 107), some (u 108), some (u 109), some (u 110), some (u 111), some (u 112), some (u 113), some (u 114), some (u 115), some (u 116), some (u 117), some (u 118)]) (fun (j : Nat) => []) (fun (j : Nat) => []) (0) (by kernel_rfl) ?_ (by kernel_rfl) ?_ ?_
          · exact Nat.zero_le _
          · exact subset_nil
          intro u j hj
          refine JC_norm ⟨119, [], [_, _, _, _, _, _, _, _, _, _, _, _, _, _, _, _, _, _, _, _, _, _, _, _, _, _, _, _, _, _, _, _, _, _, _, _, _, _, _, _, _, _, _, _, _, _, _, _, _, _, _, _, _, _, _, _, _, _, _, _, _, _, _, _, _, _, _, _, _, _, _, _, _, _, _, _, _, _, _, _, _, _, _, _, _, _, _, _, _, _, _, _, _, _, _, _, _, _, _, _, _, _, _, _, _, _, _, _, _, _, _, _, _, _, _, _, _, _, _]⟩ [] [_, _, _, _, _, _] rfl rfl rfl ?_
          refine JC_seq ?_
          refine JC_seq ?_
          refine JC_region ?_
          refine JL_move rfl ?_
          refine JL_move rfl ?_
          refine JL_len sl28 rfl ?_
          refine JL_lss rfl rfl ?_
          refine JL_split (fun h93 => ?_) (fun h93 => ?_)
          · refine JL_done_up 119 [] [_, _, _, _, _, _] rfl rfl (by simp only [nrmF]; rfl) rfl rfl ?_
            refine JC_true rfl ?_
            refine JC_skip ?_
            refine JE_then ?_
            refine JC_seq ?_
            refine JC_block ?_
            refine JC_seq ?_
            rcases Nat.eq_zero_or_pos j with h0 | h0
            · refine JC_drawT mixed 20 [spV 96 [] _, spV 97 [] _, spV 98 [] _, spV 99 [1, 2] _, spV 100 [3] _, spC 101 [0, 4] _, spV 102 [5] _, spV 103 [6] _, spV 104 [7] _, spV 105 [7, 8] _, spV 106 [7, 9] _, spV 107 [10] _, spV 108 [10] _, spV 109 [10, 11, 12] _, spV 110 [10, 13] _, spV 111 [10] _, spV 112 [10] _, spV 113 [10, 16] _, spV 114 [10, 15, 17] _, spV 115 [10, 18] _] ⟨OblS_V (fun vals ex ψ => (by
                  refine JL_normQ ⟨119, [(96, _), (97, _), (98, _), (99, _), (100, _), (101, _), (102, _), (103, _), (104, _), (105, _), (106, _), (107, _), (108, _), (109, _), (110, _), (111, _), (112, _), (113, _), (114, _), (115, _)], _⟩ (_ :: _ :: _ :: _ :: _ :: _ :: ψ) rfl rfl ?_
                  refine JL_move rfl ?_
                  exact JL_nil (JE_stepV rfl ss0))), OblS_V (fun vals ex ψ => (by
                  refine JL_normQ ⟨119, [(96, _), (97, _), (98, _), (99, _), (100, _), (101, _), (102, _), (103, _), (104, _), (105, _), (106, _), (107, _), (108, _), (109, _), (110, _), (111, _), (112, _), (113, _), (114, _), (115, _)], _⟩ (_ :: _ :: _ :: _ :: _ :: _ :: ψ) rfl rfl ?_
                  refine JL_move rfl ?_
                  exact JL_nil (JE_stepV rfl ss0))), OblS_V (fun vals ex ψ => (by
                  refine JL_normQ ⟨119, [(96, _), (97, _), (98, _), (99, _), (100, _), (101, _), (102, _), (103, _), (104, _), (105, _), (106, _), (107, _), (108, _), (109, _), (110, _), (111, _), (112, _), (113, _), (114, _), (115, _)], _⟩ (_ :: _ :: _ :: _ :: _ :: _ :: ψ) rfl rfl ?_
                  refine JL_move rfl ?_
                  exact JL_nil (JE_stepV rfl ss0))), OblS_V (fun vals ex ψ => (by
                  refine JL_normQ ⟨119, [(96, _), (97, _), (98, _), (99, _), (100, _), (101, _), (102, _), (103, _), (104, _), (105, _), (106, _), (107, _), (108, _), (109, _), (110, _), (111, _), (112, _), (113, _), (114, _), (115, _)], _⟩ (_ :: _ :: _ :: _ :: _ :: _ :: ψ) rfl rfl ?_
                  refine JL_idx j sl28 rfl rfl rfl (by omega) (by first | exact Reads.view (by repeat (first | with_reducible exact mm0 | refine mmS ?_))) (by first | (rw [u32s_length]; omega) | (rw [i64s_length]; omega)) ?_
                  exact JL_nil (JE_stepV rfl ss0))), OblS_V (fun vals ex ψ => (by
                  refine JL_normQ ⟨119, [(96, _), (97, _), (98, _), (99, _), (100, _), (101, _), (102, _), (103, _), (104, _), (105, _), (106, _), (107, _), (108, _), (109, _), (110, _), (111, _), (112, _), (113, _), (114, _), (115, _)], _⟩ (_ :: _ :: _ :: _ :: _ :: _ :: ψ) rfl rfl ?_
                  refine JL_loadE ty3 rfl (by first | exact Reads.view (by repeat (first | with_reducible exact mm0 | refine mmS ?_))) (i64s_get (by omega)) ?_
                  exact JL_nil (JE_stepV rfl ss0))), OblS_C (fun vals ex ψ => (by
                  refine JL_normQ ⟨119, [(96, _), (97, _), (98, _), (99, _), (100, _), (101, _), (102, _), (103, _), (104, _), (105, _), (106, _), (107, _), (108, _), (109, _), (110, _), (111, _), (112, _), (113, _), (114, _), (115, _)], _⟩ (_ :: _ :: _ :: _ :: _ :: _ :: ψ) rfl rfl ?_
                  refine JL_callF' (Asks.cons (holds_of_mem (by repeat (first | with_reducible exact mm0 | refine mmS ?_))) Asks.nil) (hasT_con (by omega) ((hin _).1 (getD_memI (by omega)))) rfl ca30 ⟨rfl, rfl, rfl⟩ ?_
                  exact fun v φo hP => JL_nil (JE_stepC φo rfl hP (fun p hp => mapB_l hp) (fun p hp => mapB_r (ss0 p hp))))), OblS_V (fun vals ex ψ => (by
                  refine JL_normQ ⟨119, [(96, _), (97, _), (98, _), (99, _), (100, _), (101, _), (102, _), (103, _), (104, _), (105, _), (106, _), (107, _), (108, _), (109, _), (110, _), (111, _), (112, _), (113, _), (114, _), (115, _)], _⟩ (_ :: _ :: _ :: _ :: _ :: _ :: _ :: ψ) rfl rfl ?_
                  generalize vals 5 = x101
                  refine JL_usePost mm0 (fun φo hP => ?_)
                  obtain ⟨rfl, rfl⟩ := hP
                  refine JL_norm _ _ (_ :: _ :: _ :: _ :: _ :: _ :: _ :: ψ) rfl rfl rfl ?_
                  refine JL_not rfl ?_
                  rw [Bool.not_true]
                  exact JL_nil (JE_stepV rfl ss0))), OblS_V (fun vals ex ψ => (by
                  refine JL_normQ ⟨119, [(96, _), (97, _), (98, _), (99, _), (100, _), (101, _), (102, _), (103, _), (104, _), (105, _), (106, _), (107, _), (108, _), (109, _), (110, _), (111, _), (112, _), (113, _), (114, _), (115, _)], _⟩ (_ :: _ :: _ :: _ :: _ :: _ :: ψ) rfl rfl ?_
                  refine JL_move rfl ?_
                  exact JL_nil (JE_stepV rfl ss0))), OblS_V (fun vals ex ψ => (by
                  refine JL_normQ ⟨119, [(96, _), (97, _), (98, _), (99, _), (100, _), (101, _), (102, _), (103, _), (104, _), (105, _), (106, _), (107, _), (108, _), (109, _), (110, _), (111, _), (112, _), (113, _), (114, _), (115, _)], _⟩ (_ :: _ :: _ :: _ :: _ :: _ :: ψ) rfl rfl ?_
                  refine JL_guard_yes rfl rfl ?_
                  refine JL_move rfl ?_
                  exact JL_nil (JE_stepV rfl ss0))), OblS_V (fun vals ex ψ => (by
                  refine JL_normQ ⟨119, [(96, _), (97, _), (98, _), (99, _), (100, _), (101, _), (102, _), (103, _), (104, _), (105, _), (106, _), (107, _), (108, _), (109, _), (110, _), (111, _), (112, _), (113, _), (114, _), (115, _)], _⟩ (_ :: _ :: _ :: _ :: _ :: _ :: ψ) rfl rfl ?_
                  refine JL_guard_yes rfl rfl ?_
                  refine JL_gtr rfl rfl ?_
                  rw [decide_eq_false (p := (0 : Int) < (j : Int)) (by omega)]
                  exact JL_nil (JE_stepV rfl ss0))), OblS_V (fun vals ex ψ => (by
                  refine JL_normQ ⟨119, [(96, _), (97, _), (98, _), (99, _), (100, _), (101, _), (102, _), (103, _), (104, _), (105, _), (106, _), (107, _), (108, _), (109, _), (110, _), (111, _), (112, _), (113, _), (114, _), (115, _)], _⟩ (_ :: _ :: _ :: _ :: _ :: _ :: ψ) rfl rfl ?_
                  refine JL_guard_yes rfl rfl ?_
                  refine JL_move rfl ?_
                  exact JL_nil (JE_stepV rfl ss0))), OblS_V (fun vals ex ψ => (by
                  refine JL_normQ ⟨119, [(96, _), (97, _), (98, _), (99, _), (100, _), (101, _), (102, _), (103, _), (104, _), (105, _), (106, _), (107, _), (108, _), (109, _), (110, _), (111, _), (112, _), (113, _), (114, _), (115, _)], _⟩ (_ :: _ :: _ :: _ :: _ :: _ :: ψ) rfl rfl ?_
                  refine JL_guard_no rfl rfl ?_
                  exact JL_nil (JE_stepV rfl ss0))), OblS_V (fun vals ex ψ => (by
                  refine JL_normQ ⟨119, [(96, _), (97, _), (98, _), (99, _), (100, _), (101, _), (102, _), (103, _), (104, _), (105, _), (106, _), (107, _), (108, _), (109, _), (110, _), (111, _), (112, _), (113, _), (114, _), (115, _)], _⟩ (_ :: _ :: _ :: _ :: _ :: _ :: ψ) rfl rfl ?_
                  refine JL_guard_no rfl rfl ?_
                  exact JL_nil (JE_stepV rfl ss0))), OblS_V (fun vals ex ψ => (by
                  refine JL_normQ ⟨119, [(96, _), (97, _), (98, _), (99, _), (100, _), (101, _), (102, _), (103, _), (104, _), (105, _), (106, _), (107, _), (108, _), (109, _), (110, _), (111, _), (112, _), (113, _), (114, _), (115, _)], _⟩ (_ :: _ :: _ :: _ :: _ :: _ :: ψ) rfl rfl ?_
                  refine JL_guard_no rfl rfl ?_
                  exact JL_nil (JE_stepV rfl ss0))), OblS_V (fun vals ex ψ => (by
                  refine JL_normQ ⟨119, [(96, _), (97, _), (98, _), (99, _), (100, _), (101, _), (102, _), (103, _), (104, _), (105, _), (106, _), (107, _), (108, _), (109, _), (110, _), (111, _), (112, _), (113, _), (114, _), (115, _)], _⟩ (_ :: _ :: _ :: _ :: _ :: _ :: ψ) rfl rfl ?_
                  refine JL_guard_no rfl rfl ?_
                  exact JL_nil (JE_stepV rfl ss0))), OblS_V (fun vals ex ψ => (by
                  refine JL_normQ ⟨119, [(96, _), (97, _), (98, _), (99, _), (100, _), (101, _), (102, _), (103, _), (104, _), (105, _), (106, _), (107, _), (108, _), (109, _), (110, _), (111, _), (112, _), (113, _), (114, _), (115, _)], _⟩ (_ :: _ :: _ :: _ :: _ :: _ :: ψ) rfl rfl ?_
                  refine JL_guard_no rfl rfl ?_
                  exact JL_nil (JE_stepV rfl ss0))), OblS_V (fun vals ex ψ => (by
                  refine JL_normQ ⟨119, [(96, _), (97, _), (98, _), (99, _), (100, _), (101, _), (102, _), (103, _), (104, _), (105, _), (106, _), (107, _), (108, _), (109, _), (110, _), (111, _), (112, _), (113, _), (114, _), (115, _)], _⟩ (_ :: _ :: _ :: _ :: _ :: _ :: ψ) rfl rfl ?_
                  refine JL_guard_no rfl rfl ?_
                  exact JL_nil (JE_stepV rfl ss0))), OblS_V (fun vals ex ψ => (by
                  refine JL_normQ ⟨119, [(96, _), (97, _), (98, _), (99, _), (100, _), (101, _), (102, _), (103, _), (104, _), (105, _), (106, _), (107, _), (108, _), (109, _), (110, _), (111, _), (112, _), (113, _), (114, _), (115, _)], _⟩ (_ :: _ :: _ :: _ :: _ :: _ :: ψ) rfl rfl ?_
                  refine JL_guard_no rfl rfl ?_
                  exact JL_nil (JE_stepV rfl ss0))), OblS_V (fun vals ex ψ => (by
                  refine JL_normQ ⟨119, [(96, _), (97, _), (98, _), (99, _), (100, _), (101, _), (102, _), (103, _), (104, _), (105, _), (106, _), (107, _), (108, _), (109, _), (110, _), (111, _), (112, _), (113, _), (114, _), (115, _)], _⟩ (_ :: _ :: _ :: _ :: _ :: _ :: ψ) rfl rfl ?_
                  refine JL_guard_no rfl rfl ?_
                  exact JL_nil (JE_stepV rfl ss0))), OblS_V (fun vals ex ψ => (by
                  refine JL_normQ ⟨119, [(96, _), (97, _), (98, _), (99, _), (100, _), (101, _), (102, _), (103, _), (104, _), (105, _), (106, _), (107, _), (108, _), (109, _), (110, _), (111, _), (112, _), (113, _), (114, _), (115, _)], _⟩ (_ :: _ :: _ :: _ :: _ :: _ :: ψ) rfl rfl ?_
                  refine JL_guard_no rfl rfl ?_
                  exact JL_nil (JE_stepV rfl ss0))), trivial⟩ (by kernel_rfl) (fun vals bs => ?_)
              refine JL_normL [_, _, _] ⟨119, [(96, _), (97, _), (98, _), (99, _), (100, _), (101, _), (102, _), (103, _), (104, _), (105, _), (106, _), (107, _), (108, _), (109, _), (110, _), (111, _), (112, _), (113, _), (114, _), (115, _)], _⟩ [] [_, _, _, _, _, _, _] rfl rfl rfl rfl ?_
              generalize vals (0 + 1 + 1 + 1 + 1 + 1) = x101
              refine JL_guard_no rfl rfl ?_
              refine JL_guard_yes rfl rfl ?_
              refine JL_pick_f rfl rfl ?_
              refine JL_pick_f rfl rfl ?_
              refine JL_done_up 119 [] [_, _, _, _, _, _, _] rfl rfl (by simp only [nrmF]; rfl) rfl rfl ?_
              refine JC_false rfl ?_
              refine JC_skip ?_
              refine JE_block_normal ?_
              refine JE_then ?_
              refine JC_region ?_
              refine JL_move rfl ?_
              refine JL_add_to rfl rfl (IntWalk.i64_in _ (by omega)) ?_
              refine JL_assign rfl ?_
              refine JL_nil_up 119 [] [_, _, _, _, _, _, _] rfl rfl (by simp only [nrmF]; rfl) rfl rfl ?_
              refine JE_nextS (j + 1) (by kernel_rfl) ?_ ?_ (by kernel_rfl) ?_
              · exact (by omega : j + 1 ≤ (lukR (bothR (l) (m) (cmpL (l) (m) (l).length)) n).length)
              · first | omega | (dsimp only; omega)
              · exact subset_app subset_nil (ssS ss0)
            · refine JC_drawT mixed 20 [spV 96 [] _, spV 97 [] _, spV 98 [] _, spV 99 [1, 2] _, spV 100 [3] _, spC 101 [0, 4] _, spV 102 [5] _, spV 103 [6] _, spV 104 [7] _, spV 105 [7, 8] _, spV 106 [7, 9] _, spV 107 [10] _, spV 108 [10] _, spV 109 [10, 11, 12] _, spV 110 [10, 13] _, spV 111 [10] _, spV 112 [10] _, spV 113 [10, 16] _, spV 114 [10, 15, 17] _, spV 115 [10, 18] _] ⟨OblS_V (fun vals ex ψ => (by
                  refine JL_normQ ⟨119, [(96, _), (97, _), (98, _), (99, _), (100, _), (101, _), (102, _), (103, _), (104, _), (105, _), (106, _), (107, _), (108, _), (109, _), (110, _), (111, _), (112, _), (113, _), (114, _), (115, _)], _⟩ (_ :: _ :: _ :: _ :: _ :: _ :: ψ) rfl rfl ?_
                  refine JL_move rfl ?_
                  exact JL_nil (JE_stepV rfl ss0))), OblS_V (fun vals ex ψ => (by
                  refine JL_normQ ⟨119, [(96, _), (97, _), (98, _), (99, _), (100, _), (101, _), (102, _), (103, _), (104, _), (105, _), (106, _), (107, _), (108, _), (109, _), (110, _), (111, _), (112, _), (113, _), (114, _), (115, _)], _⟩ (_ :: _ :: _ :: _ :: _ :: _ :: ψ) rfl rfl ?_
                  refine JL_move rfl ?_
                  exact JL_nil (JE_stepV rfl ss0))), OblS_V (fun vals ex ψ => (by
                  refine JL_normQ ⟨119, [(96, _), (97, _), (98, _), (99, _), (100, _), (101, _), (102, _), (103, _), (104, _), (105, _), (106, _), (107, _), (108, _), (109, _), (110, _), (111, _), (112, _), (113, _), (114, _), (115, _)], _⟩ (_ :: _ :: _ :: _ :: _ :: _ :: ψ) rfl rfl ?_
                  refine JL_move rfl ?_
                  exact JL_nil (JE_stepV rfl ss0))), OblS_V (fun vals ex ψ => (by
                  refine JL_normQ ⟨119, [(96, _), (97, _), (98, _), (99, _), (100, _), (101, _), (102, _), (103, _), (104, _), (105, _), (106, _), (107, _), (108, _), (109, _), (110, _), (111, _), (112, _), (113, _), (114, _), (115, _)], _⟩ (_ :: _ :: _ :: _ :: _ :: _ :: ψ) rfl rfl ?_
                  refine JL_idx j sl28 rfl rfl rfl (by omega) (by first | exact Reads.view (by repeat (first | with_reducible exact mm0 | refine mmS ?_))) (by first | (rw [u32s_length]; omega) | (rw [i64s_length]; omega)) ?_
                  exact JL_nil (JE_stepV rfl ss0))), OblS_V (fun vals ex ψ => (by
                  refine JL_normQ ⟨119, [(96, _), (97, _), (98, _), (99, _), (100, _), (101, _), (102, _), (103, _), (104, _), (105, _), (106, _), (107, _), (108, _), (109, _), (110, _), (111, _), (112, _), (113, _), (114, _), (115, _)], _⟩ (_ :: _ :: _ :: _ :: _ :: _ :: ψ) rfl rfl ?_
                  refine JL_loadE ty3 rfl (by first | exact Reads.view (by repeat (first | with_reducible exact mm0 | refine mmS ?_))) (i64s_get (by omega)) ?_
                  exact JL_nil (JE_stepV rfl ss0))), OblS_C (fun vals ex ψ => (by
                  refine JL_normQ ⟨119, [(96, _), (97, _), (98, _), (99, _), (100, _), (101, _), (102, _), (103, _), (104, _), (105, _), (106, _), (107, _), (108, _), (109, _), (110, _), (111, _), (112, _), (113, _), (114, _), (115, _)], _⟩ (_ :: _ :: _ :: _ :: _ :: _ :: ψ) rfl rfl ?_
                  refine JL_callF' (Asks.cons (holds_of_mem (by repeat (first | with_reducible exact mm0 | refine mmS ?_))) Asks.nil) (hasT_con (by omega) ((hin _).1 (getD_memI (by omega)))) rfl ca30 ⟨rfl, rfl, rfl⟩ ?_
                  exact fun v φo hP => JL_nil (JE_stepC φo rfl hP (fun p hp => mapB_l hp) (fun p hp => mapB_r (ss0 p hp))))), OblS_V (fun vals ex ψ => (by
                  refine JL_normQ ⟨119, [(96, _), (97, _), (98, _), (99, _), (100, _), (101, _), (102, _), (103, _), (104, _), (105, _), (106, _), (107, _), (108, _), (109, _), (110, _), (111, _), (112, _), (113, _), (114, _), (115, _)], _⟩ (_ :: _ :: _ :: _ :: _ :: _ :: _ :: ψ) rfl rfl ?_
                  generalize vals 5 = x101
                  refine JL_usePost mm0 (fun φo hP => ?_)
                  obtain ⟨rfl, rfl⟩ := hP
                  refine JL_norm _ _ (_ :: _ :: _ :: _ :: _ :: _ :: _ :: ψ) rfl rfl rfl ?_
                  refine JL_not rfl ?_
                  rw [Bool.not_true]
                  exact JL_nil (JE_stepV rfl ss0))), OblS_V (fun vals ex ψ => (by
                  refine JL_normQ ⟨119, [(96, _), (97, _), (98, _), (99, _), (100, _), (101, _), (102, _), (103, _), (104, _), (105, _), (106, _), (107, _), (108, _), (109, _), (110, _), (111, _), (112, _), (113, _), (114, _), (115, _)], _⟩ (_ :: _ :: _ :: _ :: _ :: _ :: ψ) rfl rfl ?_
                  refine JL_move rfl ?_
                  exact JL_nil (JE_stepV rfl ss0))), OblS_V (fun vals ex ψ => (by
                  refine JL_normQ ⟨119, [(96, _), (97, _), (98, _), (99, _), (100, _), (101, _), (102, _), (103, _), (104, _), (105, _), (106, _), (107, _), (108, _), (109, _), (110, _), (111, _), (112, _), (113, _), (114, _), (115, _)], _⟩ (_ :: _ :: _ :: _ :: _ :: _ :: ψ) rfl rfl ?_
                  refine JL_guard_yes rfl rfl ?_
                  refine JL_move rfl ?_
                  exact JL_nil (JE_stepV rfl ss0))), OblS_V (fun vals ex ψ => (by
                  refine JL_normQ ⟨119, [(96, _), (97, _), (98, _), (99, _), (100, _), (101, _), (102, _), (103, _), (104, _), (105, _), (106, _), (107, _), (108, _), (109, _), (110, _), (111, _), (112, _), (113, _), (114, _), (115, _)], _⟩ (_ :: _ :: _ :: _ :: _ :: _ :: ψ) rfl rfl ?_
                  refine JL_guard_yes rfl rfl ?_
                  refine JL_gtr rfl rfl ?_
                  rw [decide_eq_true (p := (0 : Int) < (j : Int)) (by omega)]
                  exact JL_nil (JE_stepV rfl ss0))), OblS_V (fun vals ex ψ => (by
                  refine JL_normQ ⟨119, [(96, _), (97, _), (98, _), (99, _), (100, _), (101, _), (102, _), (103, _), (104, _), (105, _), (106, _), (107, _), (108, _), (109, _), (110, _), (111, _), (112, _), (113, _), (114, _), (115, _)], _⟩ (_ :: _ :: _ :: _ :: _ :: _ :: ψ) rfl rfl ?_
                  refine JL_guard_yes rfl rfl ?_
                  refine JL_move rfl ?_
                  exact JL_nil (JE_stepV rfl ss0))), OblS_V (fun vals ex ψ => (by
                  refine JL_normQ ⟨119, [(96, _), (97, _), (98, _), (99, _), (100, _), (101, _), (102, _), (103, _), (104, _), (105, _), (106, _), (107, _), (108, _), (109, _), (110, _), (111, _), (112, _), (113, _), (114, _), (115, _)], _⟩ (_ :: _ :: _ :: _ :: _ :: _ :: ψ) rfl rfl ?_
                  refine JL_guard_yes rfl rfl ?_
                  refine JL_move rfl ?_
                  exact JL_nil (JE_stepV rfl ss0))), OblS_V (fun vals ex ψ => (by
                  refine JL_normQ ⟨119, [(96, _), (97, _), (98, _), (99, _), (100, _), (101, _), (102, _), (103, _), (104, _), (105, _), (106, _), (107, _), (108, _), (109, _), (110, _), (111, _), (112, _), (113, _), (114, _), (115, _)], _⟩ (_ :: _ :: _ :: _ :: _ :: _ :: ψ) rfl rfl ?_
                  refine JL_guard_yes rfl rfl ?_
                  refine JL_move rfl ?_
                  exact JL_nil (JE_stepV rfl ss0))), OblS_V (fun vals ex ψ => (by
                  refine JL_normQ ⟨119, [(96, _), (97, _), (98, _), (99, _), (100, _), (101, _), (102, _), (103, _), (104, _), (105, _), (106, _), (107, _), (108, _), (109, _), (110, _), (111, _), (112, _), (113, _), (114, _), (115, _)], _⟩ (_ :: _ :: _ :: _ :: _ :: _ :: ψ) rfl rfl ?_
                  refine JL_guard_yes rfl rfl ?_
                  refine JL_idx j sl28 rfl rfl rfl (by omega) (by first | exact Reads.view (by repeat (first | with_reducible exact mm0 | refine mmS ?_))) (by first | (rw [u32s_length]; omega) | (rw [i64s_length]; omega)) ?_
                  exact JL_nil (JE_stepV rfl ss0))), OblS_V (fun vals ex ψ => (by
                  refine JL_normQ ⟨119, [(96, _), (97, _), (98, _), (99, _), (100, _), (101, _), (102, _), (103, _), (104, _), (105, _), (106, _), (107, _), (108, _), (109, _), (110, _), (111, _), (112, _), (113, _), (114, _), (115, _)], _⟩ (_ :: _ :: _ :: _ :: _ :: _ :: ψ) rfl rfl ?_
                  refine JL_guard_yes rfl rfl ?_
                  refine JL_loadE ty3 rfl (by first | exact Reads.view (by repeat (first | with_reducible exact mm0 | refine mmS ?_))) (i64s_get (by omega)) ?_
                  exact JL_nil (JE_stepV rfl ss0))), OblS_V (fun vals ex ψ => (by
                  refine JL_normQ ⟨119, [(96, _), (97, _), (98, _), (99, _), (100, _), (101, _), (102, _), (103, _), (104, _), (105, _), (106, _), (107, _), (108, _), (109, _), (110, _), (111, _), (112, _), (113, _), (114, _), (115, _)], _⟩ (_ :: _ :: _ :: _ :: _ :: _ :: ψ) rfl rfl ?_
                  refine JL_guard_yes rfl rfl ?_
                  refine JL_move rfl ?_
                  exact JL_nil (JE_stepV rfl ss0))), OblS_V (fun vals ex ψ => (by
                  refine JL_normQ ⟨119, [(96, _), (97, _), (98, _), (99, _), (100, _), (101, _), (102, _), (103, _), (104, _), (105, _), (106, _), (107, _), (108, _), (109, _), (110, _), (111, _), (112, _), (113, _), (114, _), (115, _)], _⟩ (_ :: _ :: _ :: _ :: _ :: _ :: ψ) rfl rfl ?_
                  refine JL_guard_yes rfl rfl ?_
                  refine JL_move rfl ?_
                  exact JL_nil (JE_stepV rfl ss0))), OblS_V (fun vals ex ψ => (by
                  refine JL_normQ ⟨119, [(96, _), (97, _), (98, _), (99, _), (100, _), (101, _), (102, _), (103, _), (104, _), (105, _), (106, _), (107, _), (108, _), (109, _), (110, _), (111, _), (112, _), (113, _), (114, _), (115, _)], _⟩ (_ :: _ :: _ :: _ :: _ :: _ :: ψ) rfl rfl ?_
                  refine JL_guard_yes rfl rfl ?_
                  refine JL_sub_to rfl rfl (IntWalk.i64_in _ (by omega)) ?_
                  exact JL_nil (JE_stepV rfl ss0))), OblS_V (fun vals ex ψ => (by
                  refine JL_normQ ⟨119, [(96, _), (97, _), (98, _), (99, _), (100, _), (101, _), (102, _), (103, _), (104, _), (105, _), (106, _), (107, _), (108, _), (109, _), (110, _), (111, _), (112, _), (113, _), (114, _), (115, _)], _⟩ (_ :: _ :: _ :: _ :: _ :: _ :: ψ) rfl rfl ?_
                  refine JL_guard_yes rfl rfl ?_
                  refine JL_idx (j - 1) sl28 rfl rfl (by omega) (by omega) (by first | exact Reads.view (by repeat (first | with_reducible exact mm0 | refine mmS ?_))) (by first | (rw [u32s_length]; omega) | (rw [i64s_length]; omega)) ?_
                  exact JL_nil (JE_stepV rfl ss0))), OblS_V (fun vals ex ψ => (by
                  refine JL_normQ ⟨119, [(96, _), (97, _), (98, _), (99, _), (100, _), (101, _), (102, _), (103, _), (104, _), (105, _), (106, _), (107, _), (108, _), (109, _), (110, _), (111, _), (112, _), (113, _), (114, _), (115, _)], _⟩ (_ :: _ :: _ :: _ :: _ :: _ :: ψ) rfl rfl ?_
                  refine JL_guard_yes rfl rfl ?_
                  refine JL_loadE ty3 rfl (by first | exact Reads.view (by repeat (first | with_reducible exact mm0 | refine mmS ?_))) (i64s_get (by omega)) ?_
                  exact JL_nil (JE_stepV rfl ss0))), trivial⟩ (by kernel_rfl) (fun vals bs => ?_)
              refine JL_normL [_, _, _] ⟨119, [(96, _), (97, _), (98, _), (99, _), (100, _), (101, _), (102, _), (103, _), (104, _), (105, _), (106, _), (107, _), (108, _), (109, _), (110, _), (111, _), (112, _), (113, _), (114, _), (115, _)], _⟩ [] [_, _, _, _, _, _, _] rfl rfl rfl rfl ?_
              generalize vals (0 + 1 + 1 + 1 + 1 + 1) = x101
              refine JL_guard_yes rfl rfl ?_
              refine JL_leq rfl rfl ?_
              rw [decide_eq_false (p := (lukR (bothR (l) (m) (cmpL (l) (m) (l).length)) n).getD j 0 ≤ (lukR (bothR (l) (m) (cmpL (l) (m) (l).length)) n).getD (j - 1) 0) (fun h => absurd (ascI_getD (asc_lukR (bothR (l) (m) (cmpL (l) (m) (l).length)) n) h0 (by omega)) (by omega))]
              refine JL_guard_yes rfl rfl ?_
              refine JL_pick_t rfl rfl ?_
              refine JL_pick_f rfl rfl ?_
              refine JL_done_up 119 [] [_, _, _, _, _, _, _] rfl rfl (by simp only [nrmF]; rfl) rfl rfl ?_
              refine JC_false rfl ?_
              refine JC_skip ?_
              refine JE_block_normal ?_
              refine JE_then ?_
              refine JC_region ?_
              refine JL_move rfl ?_
              refine JL_add_to rfl rfl (IntWalk.i64_in _ (by omega)) ?_
              refine JL_assign rfl ?_
              refine JL_nil_up 119 [] [_, _, _, _, _, _, _] rfl rfl (by simp only [nrmF]; rfl) rfl rfl ?_
              refine JE_nextS (j + 1) (by kernel_rfl) ?_ ?_ (by kernel_rfl) ?_
              · exact (by omega : j + 1 ≤ (lukR (bothR (l) (m) (cmpL (l) (m) (l).length)) n).length)
              · first | omega | (dsimp only; omega)
              · exact subset_app subset_nil (ssS ss0)
          · refine JL_done_up 119 [] [_, _, _, _, _, _] rfl rfl (by simp only [nrmF]; rfl) rfl rfl ?_
            refine JC_false rfl ?_
            refine JC_exit ?_
            refine JE_then_exit ?_
            refine JE_nextS_exit ?_
            refine JE_block_exit ?_
            refine JE_then ?_
            refine JC_seq ?_
            refine JC_region ?_
            refine JL_assign rfl ?_
            refine JL_done_up 119 [] [_, _, _, _, _, _] rfl rfl (by simp only [nrmF]; rfl) rfl rfl ?_
            refine JC_ret ?_
            refine JE_ret (vs := [_]) [] Try.results7 ⟨rfl, rfl⟩ ?_ ?_
            · exact ⟨rfl, rfl⟩
            · exact all_nil
  · refine JL_guard_yes rfl rfl ?_
    refine JL_not rfl ?_
    rw [Bool.not_false]
    refine JL_pick_f rfl rfl ?_
    refine JL_done_up 119 [] [_, _] rfl rfl (by simp only [nrmF]; rfl) rfl rfl ?_
    refine JC_true rfl ?_
    refine JC_seq ?_
    refine JC_region ?_
    refine JL_callF' Asks.nil (awake48_con) rfl ca10 rfl ?_
    rintro _ _ ⟨rfl, rfl⟩
    refine JL_assign rfl ?_
    refine JL_done_up 119 [] [_, _] rfl rfl (by simp only [nrmF]; rfl) rfl rfl ?_
    refine JC_ret ?_
    refine JE_then_ret ?_
    refine JE_ret (vs := [_]) [] Try.results7 ⟨rfl, rfl⟩ ?_ ?_
    · exact ⟨rfl, rfl⟩
    · exact all_nil

end Go.Fw.K
