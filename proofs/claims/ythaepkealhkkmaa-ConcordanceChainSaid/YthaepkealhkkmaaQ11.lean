/- Walks through functions of the given program: each meets its contract. (Printed by a program of this repo.) -/
import Derived.Test.YthaepkealhkkmaaQ10
import Derived.Test.YthaepkealhkkmaaProg
namespace Go.Fw.Q11
open Go Go.RowKit Go.Proofs Go.Nat9 Go.Fw
attribute [local irreducible] JC JL JE
theorem ca36 : callable Try.prog 36 = true := by kernel_rfl
theorem ca45 : callable Try.prog 45 = true := by kernel_rfl
theorem ca46 : callable Try.prog 46 = true := by kernel_rfl
theorem fo41_0 : fOf Try.prog 41 0 = some 0 := by kernel_rfl
theorem fo48_0 : fOf Try.prog 48 0 = some 0 := by kernel_rfl
theorem fo48_1 : fOf Try.prog 48 1 = some 1 := by kernel_rfl
theorem sl22 : slOf Try.prog 22 = some (51, 2, 16, [.int .i64 0, .int .i64 0]) := by kernel_rfl
theorem sl39 : slOf Try.prog 39 = some (48, 2, 16, [.int .i64 0, .int .i64 0]) := by kernel_rfl
theorem st51 : stOf Try.prog 51 = some ([(0, 1), (1, 1)], [.int .i64 0, .int .i64 0]) := by kernel_rfl
theorem ty3 : tyOf Try.prog 3 = some (false, 1) := by kernel_rfl
theorem ty39 : tyOf Try.prog 39 = some (false, 1) := by kernel_rfl
theorem ty41 : tyOf Try.prog 41 = some (true, 2) := by kernel_rfl
theorem ty48 : tyOf Try.prog 48 = some (true, 2) := by kernel_rfl
theorem z48 : zeroOf Try.prog 48 = some [.int .i64 0, .int .i64 0] := by kernel_rfl
end Go.Fw.Q11
namespace Go.Fw.K
open Go Go.RowKit Go.Proofs Go.Nat9 Go.Fw Go.Fw.Q11
attribute [local irreducible] JC JL JE

set_option maxHeartbeats 2000000 in
theorem of_con {ad1 ad2 ad3 ad4 : Option Addr} {c1 c2 c3 c4 : Nat} {E F : List Pr} {R S : List Int} (hE : E.length ≤ 1000000) (hR : R.length ≤ 1000000) (hF : F.length ≤ 1000000) (hS : S.length ≤ 1000000) :
    ConF Try.prog 31 [.agg #[.slice ad1 E.length c1, .slice ad2 R.length c2], .agg #[.slice ad3 F.length c3, .slice ad4 S.length c4]] [vCells ad1 (pcells E), vCells ad2 (i64s R), vCells ad3 (pcells F), vCells ad4 (i64s S)]
      (SPP (ofR E R F S) (ofE E R F S)) := by
  refine ConF_of Try.func31 rfl 47 _ rfl rfl ?_
  intro w0
  refine JC_norm ⟨47, [], [_, _, _, _, _, _, _, _, _, _, _, _, _, _, _, _, _, _, _, _, _, _, _, _, _, _, _, _, _, _, _, _, _, _, _, _, _, _, _, _, _, _, _, _, _, _, _]⟩ [] [_, _, _, _] rfl rfl rfl ?_
  refine JC_seq ?_
  refine JC_region ?_
  refine JL_box rfl rfl (fun b2 => ?_)
  refine JL_box rfl rfl (fun b3 => ?_)
  refine JL_assign rfl ?_
  refine JL_assign rfl ?_
  refine JL_done_up 47 [box _ _ [_, _], box _ _ [_, _]] [_, _, _, _] rfl rfl (by simp only [nrmF]; rfl) rfl rfl ?_
  refine JC_seq ?_
  refine JC_seq ?_
  refine JC_region ?_
  refine JL_loadA (vs := [_, _]) 0 ty41 rfl rfl ⟨rfl, rfl, trivial⟩ ?_
  refine JL_callF' (Asks.cons (holds_of_mem (by repeat (first | with_reducible exact mm0 | refine mmS ?_))) (Asks.cons (holds_of_mem (by repeat (first | with_reducible exact mm0 | refine mmS ?_))) Asks.nil)) (edv_con hE hR) rfl ca45 ⟨rfl, rfl⟩ ?_
  rintro _ _ ⟨rfl, rfl⟩
  refine JL_split (fun h12 => ?_) (fun h12 => ?_)
  · refine JL_not rfl ?_
    rw [Bool.not_true]
    refine JL_move rfl ?_
    refine JL_guard_yes rfl rfl ?_
    refine JL_loadA (vs := [_, _]) 1 ty41 rfl rfl ⟨rfl, rfl, trivial⟩ ?_
    refine JL_guard_yes rfl rfl ?_
    refine JL_callF' (Asks.cons (holds_of_mem (by repeat (first | with_reducible exact mm0 | refine mmS ?_))) (Asks.cons (holds_of_mem (by repeat (first | with_reducible exact mm0 | refine mmS ?_))) Asks.nil)) (edv_con (E := F) (R := S) hF hS) rfl ca45 ⟨rfl, rfl⟩ ?_
    rintro _ _ ⟨rfl, rfl⟩
    refine JL_split (fun h16 => ?_) (fun h16 => ?_)
    · refine JL_guard_yes rfl rfl ?_
      refine JL_not rfl ?_
      rw [Bool.not_true]
      refine JL_pick_f rfl rfl ?_
      refine JL_done_up 47 [box _ _ [_, _], box _ _ [_, _]] [_, _, _, _] rfl rfl (by simp only [nrmF]; rfl) rfl rfl ?_
      refine JC_false rfl ?_
      refine JC_skip ?_
      refine JE_then ?_
      refine JC_seq ?_
      refine JC_region ?_
      refine JL_assign rfl ?_
      refine JL_done_up 47 [box _ _ [_, _], box _ _ [_, _]] [_, _, _, _] rfl rfl (by simp only [nrmF]; rfl) rfl rfl ?_
      refine JC_seq ?_
      refine JC_seq ?_
      refine JC_region ?_
      refine JL_fieldAddr fo41_0 rfl ?_
      refine JL_load 0 ty39 rfl rfl rfl ?_
      refine JL_len sl39 rfl ?_
      refine JL_move rfl ?_
      refine JL_done_up 47 [box _ _ [_, _], box _ _ [_, _]] [_, _, _, _] rfl rfl (by simp only [nrmF]; rfl) rfl rfl ?_
      refine JC_block ?_
      refine JC_addNil 51 2 ?_
      refine JC_norm ⟨47, [], [_, _, _, _, _, _, _, _, _, _, _, _, _, _, _, _, _, _, _, _, _, _, _, _, _, _, _, _, _, _, _, _, _, _, _, _, _, _, _, _, _, _, _, _, _, _, _]⟩ [box _ _ [_, _], box _ _ [_, _], osl _ _ _ _ _ _] [_, _, _, _] rfl rfl rfl ?_
      refine JC_loopS ((Nat) × (List Pr) × (Option Addr) × (Nat) × (Nat)) (fun (i, r, ad5, cap5, n5) => i ≤ E.length ∧ ofL E F i = r ∧ r.length = n5 ∧ n5 ≤ i) (fun (i, r, ad5, cap5, n5) => E.length - i) (fun u (i, r, ad5, cap5, n5) => [none, none, none, none, none, none, some (.slice ad5 n5 cap5), none, some (u 8), some (u 9), some (u 10), none, none, none, none, none, none, none, none, none, none, none, some (.int .i64 (i : Nat)), some (u 23), some (u 24), some (u 25), some (u 26), some (u 27), some (u 28), some (u 29), some (u 30), some (u 31), some (u 32), some (u 33), some (u 34), some (u 35), some (u 36), some (u 37), some (u 38), some (u 39), some (u 40), some (u 41), some (u 42), none, none, none, none]) (fun (i, r, ad5, cap5, n5) => [none, none, some (osl ad5 n5 cap5 51 2 (pcells r))]) (fun (i, r, ad5, cap5, n5) => []) (0, [], none, 0, 0) (by kernel_rfl) ?_ (by kernel_rfl) ?_ ?_
      · exact ⟨Nat.zero_le _, rfl, rfl, Nat.le_refl _⟩
      · exact subset_nil
      intro u i hC
      obtain ⟨i, r, ad5, cap5, n5⟩ := i
      obtain ⟨hi, hr, hn5, hni⟩ := hC
      refine JC_norm ⟨47, [], [_, _, _, _, _, _, _, _, _, _, _, _, _, _, _, _, _, _, _, _, _, _, _, _, _, _, _, _, _, _, _, _, _, _, _, _, _, _, _, _, _, _, _, _, _, _, _]⟩ [box _ _ [_, _], box _ _ [_, _], osl _ _ _ _ _ _] [_, _, _, _] rfl rfl rfl ?_
      refine JC_seq ?_
      refine JC_region ?_
      refine JL_lss rfl rfl ?_
      refine JL_split (fun h23 => ?_) (fun h23 => ?_)
      · refine JL_done_up 47 [box _ _ [_, _], box _ _ [_, _], osl _ _ _ _ _ _] [_, _, _, _] rfl rfl (by simp only [nrmF]; rfl) rfl rfl ?_
        refine JC_seq ?_
        refine JC_true rfl ?_
        refine JC_skip ?_
        refine JE_then ?_
        refine JC_seq ?_
        refine JC_block ?_
        refine JC_seq ?_
        refine JC_region ?_
        refine JL_indexAddr i sl39 rfl rfl rfl (by omega) (by first | exact Reads.view (by repeat (first | with_reducible exact mm0 | refine mmS ?_)) | (exact Reads.own 2 rfl)) (by rw [pcells_length]; omega) ?_
        refine JL_loadEA (vs := [_, _]) ty48 (Nat.zero_lt_succ _) rfl (by first | exact Reads.view (by repeat (first | with_reducible exact mm0 | refine mmS ?_)) | (exact Reads.own 2 rfl)) (pcells_getA (l := E) (by omega)) ?_
        refine JL_alloc z48 (fun b8 => ?_)
        refine JL_store (vs := [_, _]) 3 ty48 rfl rfl rfl (AllOne.cons rfl (AllOne.cons rfl AllOne.nil)) rfl (Nat.le_of_ble_eq_true rfl) ?_
        refine JL_done_up 47 [box _ _ [_, _], box _ _ [_, _], osl _ _ _ _ _ _, box _ _ [_, _]] [_, _, _, _] rfl rfl (by simp only [nrmF]; rfl) rfl rfl ?_
        refine JC_seq ?_
        rcases hB : fndB F (E.getD i dP).1 with _ | _
        · refine JC_region ?_
          refine JL_loadA (vs := [_, _]) 1 ty41 rfl rfl ⟨rfl, rfl, trivial⟩ ?_
          refine JL_fieldAddr fo48_0 rfl ?_
          refine JL_load 3 ty3 rfl rfl rfl ?_
          refine JL_callF' (Asks.cons (by first | exact holds_of_mem (by repeat (first | with_reducible exact mm0 | refine mmS ?_)) | (exact holds_of_own 2 rfl)) (Asks.cons (by first | exact holds_of_mem (by repeat (first | with_reducible exact mm0 | refine mmS ?_)) | (exact holds_of_own 2 rfl)) Asks.nil)) (number_con (E := F) (R := S) (k := (E.getD i dP).1) (by omega) (by omega)) rfl ca46 ⟨rfl, rfl, rfl⟩ ?_
          rintro _ _ ⟨rfl, rfl⟩
          rw [(num_none h16 hB).1, (num_none h16 hB).2]
          refine JL_move rfl ?_
          refine JL_extract rfl rfl ?_
          refine JL_extract rfl rfl ?_
          refine JL_assign rfl ?_
          refine JL_assign rfl ?_
          refine JL_done_up 47 [box _ _ [_, _], box _ _ [_, _], osl _ _ _ _ _ _, box _ _ [_, _]] [_, _, _, _] rfl rfl (by simp only [nrmF]; rfl) rfl rfl ?_
          refine JC_seq ?_
          refine JC_region ?_
          refine JL_move rfl ?_
          refine JL_eql rfl rfl ?_
          rw [decide_eq_false (p := (7 : Int) = 0) (by decide)]
          refine JL_done_up 47 [box _ _ [_, _], box _ _ [_, _], osl _ _ _ _ _ _, box _ _ [_, _]] [_, _, _, _] rfl rfl (by simp only [nrmF]; rfl) rfl rfl ?_
          refine JC_false rfl ?_
          refine JC_skip ?_
          refine JE_block_normal ?_
          refine JE_then ?_
          refine JC_region ?_
          refine JL_add_to rfl rfl (IntWalk.i64_in _ (by omega)) ?_
          refine JL_move rfl ?_
          refine JL_nil_up 47 [box _ _ [_, _], box _ _ [_, _], osl _ _ _ _ _ _, box _ _ [_, _]] [_, _, _, _] rfl rfl (by simp only [nrmF]; rfl) rfl rfl ?_
          refine JE_dropAt 3 ?_
          refine JE_norm _ [box _ _ [_, _], box _ _ [_, _], osl _ _ _ _ _ _] [_, _, _, _] rfl rfl rfl ?_
          refine JE_nextS (i + 1, r, ad5, cap5, n5) (by kernel_rfl) ?_ ?_ (by kernel_rfl) ?_
          · exact ⟨by omega, by rw [ofL, if_neg (by rw [hB]; decide), hr], hn5, by omega⟩
          · first | omega | (dsimp only; omega)
          · exact subset_app subset_nil ss0
        · refine JC_region ?_
          refine JL_loadA (vs := [_, _]) 1 ty41 rfl rfl ⟨rfl, rfl, trivial⟩ ?_
          refine JL_fieldAddr fo48_0 rfl ?_
          refine JL_load 3 ty3 rfl rfl rfl ?_
          refine JL_callF' (Asks.cons (by first | exact holds_of_mem (by repeat (first | with_reducible exact mm0 | refine mmS ?_)) | (exact holds_of_own 2 rfl)) (Asks.cons (by first | exact holds_of_mem (by repeat (first | with_reducible exact mm0 | refine mmS ?_)) | (exact holds_of_own 2 rfl)) Asks.nil)) (number_con (E := F) (R := S) (k := (E.getD i dP).1) (by omega) (by omega)) rfl ca46 ⟨rfl, rfl, rfl⟩ ?_
          rintro _ _ ⟨rfl, rfl⟩
          rw [(num_ok h16 hB).1, (num_ok h16 hB).2]
          refine JL_move rfl ?_
          refine JL_extract rfl rfl ?_
          refine JL_extract rfl rfl ?_
          refine JL_assign rfl ?_
          refine JL_assign rfl ?_
          refine JL_done_up 47 [box _ _ [_, _], box _ _ [_, _], osl _ _ _ _ _ _, box _ _ [_, _]] [_, _, _, _] rfl rfl (by simp only [nrmF]; rfl) rfl rfl ?_
          refine JC_seq ?_
          refine JC_region ?_
          refine JL_move rfl ?_
          refine JL_eql rfl rfl ?_
          rw [decide_eq_true (p := (0 : Int) = 0) rfl]
          refine JL_done_up 47 [box _ _ [_, _], box _ _ [_, _], osl _ _ _ _ _ _, box _ _ [_, _]] [_, _, _, _] rfl rfl (by simp only [nrmF]; rfl) rfl rfl ?_
          refine JC_true rfl ?_
          refine JC_region ?_
          refine JL_move rfl ?_
          refine JL_fieldAddr fo48_1 rfl ?_
          refine JL_load 3 ty3 rfl rfl rfl ?_
          refine JL_move rfl ?_
          refine JL_build (cs := [_, _]) [(0, [_]), (1, [_])] st51 ⟨⟨rfl, _, rfl, rfl⟩, ⟨rfl, _, rfl, rfl⟩, rfl⟩ rfl ?_
          refine JL_buildN (cs0 := [.int .i64 0, .int .i64 0]) (cs := [_, _]) [(0, [_, _])] sl22 (by kernel_rfl) ⟨⟨rfl, _, rfl, rfl⟩, rfl⟩ rfl rfl rfl rfl (fun g40 => ?_)
          refine JL_append (news := [_, _]) 2 sl22 rfl (by decide) rfl rfl rfl rfl (Reads.own 4 rfl) (AllOne.cons rfl (AllOne.cons rfl AllOne.nil)) (by omega) (by omega) (fun ad41 cap41 hc41 => ?_)
          refine JL_dropAt 4 ?_
          refine JL_norm _ [box _ _ [_, _], box _ _ [_, _], osl _ _ _ _ _ _, box _ _ [_, _]] [_, _, _, _] rfl rfl rfl ?_
          rw [show pcells r ++ [.int .i64 (E.getD i dP).2, #[Value.int .i64 (fndV F (E.getD i dP).1), Value.int .i64 0][0]] = pcells (r ++ [((E.getD i dP).2, fndV F (E.getD i dP).1)]) from pcells_snoc r ((E.getD i dP).2, fndV F (E.getD i dP).1)]
          refine JL_assign rfl ?_
          refine JL_nil_up 47 [box _ _ [_, _], box _ _ [_, _], osl _ _ _ _ _ _, box _ _ [_, _]] [_, _, _, _] rfl rfl (by simp only [nrmF]; rfl) rfl rfl ?_
          refine JE_block_normal ?_
          refine JE_then ?_
          refine JC_region ?_
          refine JL_add_to rfl rfl (IntWalk.i64_in _ (by omega)) ?_
          refine JL_move rfl ?_
          refine JL_nil_up 47 [box _ _ [_, _], box _ _ [_, _], osl _ _ _ _ _ _, box _ _ [_, _]] [_, _, _, _] rfl rfl (by simp only [nrmF]; rfl) rfl rfl ?_
          refine JE_dropAt 3 ?_
          refine JE_norm _ [box _ _ [_, _], box _ _ [_, _], osl _ _ _ _ _ _] [_, _, _, _] rfl rfl rfl ?_
          refine JE_nextS (i + 1, r ++ [((E.getD i dP).2, fndV F (E.getD i dP).1)], ad41, cap41, n5 + 1) (by kernel_rfl) ?_ ?_ (by kernel_rfl) ?_
          · exact ⟨by omega, by rw [ofL, if_pos hB, hr], by rw [List.length_append, hn5]; rfl, by omega⟩
          · first | omega | (dsimp only; omega)
          · exact subset_app subset_nil ss0
      · refine JL_done_up 47 [box _ _ [_, _], box _ _ [_, _], osl _ _ _ _ _ _] [_, _, _, _] rfl rfl (by simp only [nrmF]; rfl) rfl rfl ?_
        refine JC_seq ?_
        refine JC_false rfl ?_
        refine JC_exit ?_
        refine JE_then_exit ?_
        refine JE_nextS_exit ?_
        refine JE_block_exit ?_
        refine JE_then ?_
        refine JC_seq ?_
        have hie : i = E.length := by omega
        subst hn5
        rw [hie] at hr
        refine JC_region ?_
        refine JL_move rfl ?_
        refine JL_dropAt 1 ?_
        refine JL_norm _ [box _ _ [_, _], osl _ _ _ _ _ _] [_, _, _, _] rfl rfl rfl ?_
        refine JL_dropAt 0 ?_
        refine JL_norm _ [osl _ _ _ _ _ _] [_, _, _, _] rfl rfl rfl ?_
        refine JL_callO AsksO.nil (sorted_con (l := r) (by omega)) rfl ca36 ⟨rfl, rfl⟩ ?_
        rintro _ _ _ ⟨ad44, c44, rfl, hc44, rfl, rfl⟩
        refine JL_extract rfl rfl ?_
        refine JL_extract rfl rfl ?_
        refine JL_assign rfl ?_
        refine JL_assign rfl ?_
        refine JL_done_up 47 [] [_, _, _, _, _] rfl rfl (by simp only [nrmF]; rfl) rfl rfl ?_
        refine JC_ret ?_
        refine JE_ret (vs := [_, _]) [vCells ad44 (pcells (sortR r))] Try.results31 ⟨rfl, rfl, rfl⟩ ?_ ?_
        · rw [← (of_sort (show edC E R ∧ edC F S from ⟨h12, h16⟩)).1, ← (of_sort (show edC E R ∧ edC F S from ⟨h12, h16⟩)).2, hr]; exact ⟨ad44, c44, rfl, hc44, rfl⟩
        · exact (all_cons (by repeat (first | with_reducible exact mm0 | refine mmS ?_)) all_nil)
    · refine JL_guard_yes rfl rfl ?_
      refine JL_not rfl ?_
      rw [Bool.not_false]
      refine JL_pick_f rfl rfl ?_
      refine JL_done_up 47 [box _ _ [_, _], box _ _ [_, _]] [_, _, _, _] rfl rfl (by simp only [nrmF]; rfl) rfl rfl ?_
      refine JC_true rfl ?_
      refine JC_seq ?_
      refine JC_region ?_
      refine JL_assign rfl ?_
      refine JL_assign rfl ?_
      refine JL_done_up 47 [box _ _ [_, _], box _ _ [_, _]] [_, _, _, _] rfl rfl (by simp only [nrmF]; rfl) rfl rfl ?_
      refine JC_ret ?_
      refine JE_then_ret ?_
      refine JE_addView (f := true) (p := vCells none (pcells [])) (fun _ _ => nilP) ?_
      refine JE_ret (vs := [_, _]) [vCells none (pcells [])] Try.results31 ⟨rfl, rfl, rfl⟩ ?_ ?_
      · rw [(of_no (fun h : edC E R ∧ edC F S => h16 h.2)).1, (of_no (fun h : edC E R ∧ edC F S => h16 h.2)).2]; exact ⟨none, 0, rfl, caps0, rfl⟩
      · exact (all_cons (by repeat (first | with_reducible exact mm0 | refine mmS ?_)) all_nil)
  · refine JL_not rfl ?_
    rw [Bool.not_false]
    refine JL_move rfl ?_
    refine JL_guard_no rfl rfl ?_
    refine JL_guard_no rfl rfl ?_
    refine JL_guard_no rfl rfl ?_
    refine JL_pick_t rfl rfl ?_
    refine JL_done_up 47 [box _ _ [_, _], box _ _ [_, _]] [_, _, _, _] rfl rfl (by simp only [nrmF]; rfl) rfl rfl ?_
    refine JC_true rfl ?_
    refine JC_seq ?_
    refine JC_region ?_
    refine JL_assign rfl ?_
    refine JL_assign rfl ?_
    refine JL_done_up 47 [box _ _ [_, _], box _ _ [_, _]] [_, _, _, _] rfl rfl (by simp only [nrmF]; rfl) rfl rfl ?_
    refine JC_ret ?_
    refine JE_then_ret ?_
    refine JE_addView (f := true) (p := vCells none (pcells [])) (fun _ _ => nilP) ?_
    refine JE_ret (vs := [_, _]) [vCells none (pcells [])] Try.results31 ⟨rfl, rfl, rfl⟩ ?_ ?_
    · rw [(of_no (fun h : edC E R ∧ edC F S => h12 h.1)).1, (of_no (fun h : edC E R ∧ edC F S => h12 h.1)).2]; exact ⟨none, 0, rfl, caps0, rfl⟩
    · exact (all_cons (by repeat (first | with_reducible exact mm0 | refine mmS ?_)) all_nil)

end Go.Fw.K
