/- Walks through functions of the given program: each meets its contract. (Printed by a program of this repo.) -/
import Derived.Test.YtehoikaiakigfaaDoorC1
import Derived.Test.YtehoikaiakigfaaDoorProg
namespace Go.Fw.C2
open Go Go.RowKit Go.Proofs Go.Nat9 Go.Fw
attribute [local irreducible] JC JL JE
theorem ca16 : callable Tryd.prog 16 = true := by kernel_rfl
theorem ca17 : callable Tryd.prog 17 = true := by kernel_rfl
theorem ca18 : callable Tryd.prog 18 = true := by kernel_rfl
theorem fo48_0 : fOf Tryd.prog 48 0 = some 0 := by kernel_rfl
theorem sl22 : slOf Tryd.prog 22 = some (3, 1, 8, [.int .i64 0]) := by kernel_rfl
theorem sl28 : slOf Tryd.prog 28 = some (36, 3, 56, [.bool false, .slice none 0 0, .slice none 0 0]) := by kernel_rfl
theorem sl45 : slOf Tryd.prog 45 = some (48, 3, 24, [.int .i64 0, .int .i64 0, .int .i64 0]) := by kernel_rfl
theorem ty3 : tyOf Tryd.prog 3 = some (false, 1) := by kernel_rfl
theorem ty48 : tyOf Tryd.prog 48 = some (true, 3) := by kernel_rfl
theorem z48 : zeroOf Tryd.prog 48 = some [.int .i64 0, .int .i64 0, .int .i64 0] := by kernel_rfl
end Go.Fw.C2
namespace Go.Fw.K
open Go Go.RowKit Go.Proofs Go.Nat9 Go.Fw Go.Fw.C2
attribute [local irreducible] JC JL JE

theorem ifit_con {adv adw : Option Addr} {cv cw : Nat} {V W : List Int} :
    ConF Tryd.prog 8 [.slice adv V.length cv, .slice adw W.length cw] [vCells adv (i64s V), vCells adw (i64s W)]
      (FRS (fitL V W) (chk V W)) := by
  refine ConF_of Tryd.func8 rfl 36 _ rfl rfl ?_
  intro w0
  refine JC_norm ⟨36, [], [_, _, _, _, _, _, _, _, _, _, _, _, _, _, _, _, _, _, _, _, _, _, _, _, _, _, _, _, _, _, _, _, _, _, _, _]⟩ [] [_, _] rfl rfl rfl ?_
  refine JC_seq ?_
  refine JC_region ?_
  refine JL_assign rfl ?_
  refine JL_assign rfl ?_
  refine JL_done_up 36 [] [_, _] rfl rfl (by simp only [nrmF]; rfl) rfl rfl ?_
  refine JC_seq ?_
  refine JC_seq ?_
  refine JC_region ?_
  refine JL_move rfl ?_
  refine JL_move rfl ?_
  refine JL_callF' (Asks.cons (holds_of_mem (by repeat (first | with_reducible exact mm0 | refine mmS ?_))) (Asks.cons (holds_of_mem (by repeat (first | with_reducible exact mm0 | refine mmS ?_))) Asks.nil)) (icheck_con) rfl ca16 ⟨rfl, rfl, rfl⟩ ?_
  rintro _ _ ⟨rfl, rfl⟩
  refine JL_assign rfl ?_
  refine JL_done_up 36 [] [_, _] rfl rfl (by simp only [nrmF]; rfl) rfl rfl ?_
  refine JC_seq ?_
  refine JC_region ?_
  refine JL_move rfl ?_
  refine JL_neq rfl rfl ?_
  refine JL_split (fun h14 => ?_) (fun h14 => ?_)
  · refine JL_done_up 36 [] [_, _] rfl rfl (by simp only [nrmF]; rfl) rfl rfl ?_
    refine JC_true rfl ?_
    refine JC_seq ?_
    refine JC_region ?_
    refine JL_move rfl ?_
    refine JL_assign rfl ?_
    refine JL_assign rfl ?_
    refine JL_done_up 36 [] [_, _] rfl rfl (by simp only [nrmF]; rfl) rfl rfl ?_
    refine JC_ret ?_
    refine JE_then_ret ?_
    refine JE_nilView2 ?_
    refine JE_ret (vs := [_, _]) [vCells none (fcells []), vFes []] Tryd.results8 ⟨rfl, rfl, rfl⟩ ?_ ?_
    · rw [fitL, if_neg h14]; exact ⟨none, 0, [], rfl, rfl, rfl⟩
    · exact (all_cons (by repeat (first | with_reducible exact mm0 | refine mmS ?_)) (all_cons (by repeat (first | with_reducible exact mm0 | refine mmS ?_)) all_nil))
  · refine JL_done_up 36 [] [_, _] rfl rfl (by simp only [nrmF]; rfl) rfl rfl ?_
    refine JC_false rfl ?_
    refine JC_skip ?_
    refine JE_then ?_
    refine JC_seq ?_
    refine JC_region ?_
    refine JL_assign rfl ?_
    refine JL_done_up 36 [] [_, _] rfl rfl (by simp only [nrmF]; rfl) rfl rfl ?_
    refine JC_seq ?_
    refine JC_seq ?_
    have hz : chk V W = 0 := Classical.byContradiction h14
    obtain ⟨hn, hvw, hok⟩ := chk_zero hz
    refine JC_region ?_
    refine JL_move rfl ?_
    refine JL_move rfl ?_
    refine JL_callF' (Asks.cons (holds_of_mem (by repeat (first | with_reducible exact mm0 | refine mmS ?_))) (Asks.cons (holds_of_mem (by repeat (first | with_reducible exact mm0 | refine mmS ?_))) Asks.nil)) (iblocks_con hz) rfl ca17 ⟨rfl, rfl, rfl⟩ ?_
    rintro _ _ ⟨ad18, c18, rfl, rfl⟩
    refine JL_len sl45 rfl ?_
    refine JL_move rfl ?_
    refine JL_done_up 36 [] [_, _, _] rfl rfl (by simp only [nrmF]; rfl) rfl rfl ?_
    refine JC_block ?_
    refine JC_fesNil ?_
    refine JC_addNil 36 3 ?_
    refine JC_norm ⟨36, [], [_, _, _, _, _, _, _, _, _, _, _, _, _, _, _, _, _, _, _, _, _, _, _, _, _, _, _, _, _, _, _, _, _, _, _, _]⟩ [osl _ _ _ _ _ _] [_, _, _, _] rfl rfl rfl ?_
    refine JC_loopS ((Nat) × (List Fe) × (Option Addr) × (Nat)) (fun (j, l, ad, cap) => j ≤ (blkL V W).length ∧ l.map (·.q) = fitB ((blkL V W).take j)) (fun (j, l, ad, cap) => (blkL V W).length - j) (fun u (j, l, ad, cap) => [none, none, none, none, none, none, none, some (.slice ad l.length cap), none, some (u 9), none, none, none, none, none, none, none, none, none, none, some (.int .i64 (j : Nat)), some (u 21), some (u 22), some (u 23), some (u 24), some (u 25), some (u 26), some (u 27), some (u 28), some (u 29), some (u 30), some (u 31), some (u 32), some (u 33), some (u 34), none]) (fun (j, l, ad, cap) => [some (osl ad l.length cap 36 3 (fcells l))]) (fun (j, l, ad, cap) => [(true, vFes l)]) (0, [], none, 0) (by kernel_rfl) ?_ (by kernel_rfl) ?_ ?_
    · exact ⟨Nat.zero_le _, rfl⟩
    · exact (subset_cons (by repeat (first | with_reducible exact mm0 | refine mmS ?_)) subset_nil)
    intro u i hC
    obtain ⟨j, l, ad, cap⟩ := i
    obtain ⟨hj, hl⟩ := hC
    refine JC_norm ⟨36, [], [_, _, _, _, _, _, _, _, _, _, _, _, _, _, _, _, _, _, _, _, _, _, _, _, _, _, _, _, _, _, _, _, _, _, _, _]⟩ [osl _ _ _ _ _ _] [_, _, _, _, _] rfl rfl rfl ?_
    refine JC_seq ?_
    refine JC_region ?_
    refine JL_lss rfl rfl ?_
    refine JL_split (fun h21 => ?_) (fun h21 => ?_)
    · refine JL_done_up 36 [osl _ _ _ _ _ _] [_, _, _, _, _] rfl rfl (by simp only [nrmF]; rfl) rfl rfl ?_
      refine JC_seq ?_
      refine JC_true rfl ?_
      refine JC_skip ?_
      refine JE_then ?_
      refine JC_seq ?_
      refine JC_block ?_
      refine JC_seq ?_
      refine JC_region ?_
      refine JL_indexAddr j sl45 rfl rfl rfl (by omega) (by first | exact Reads.view (by repeat (first | with_reducible exact mm0 | refine mmS ?_)) | (exact Reads.own 0 rfl)) (by rw [bcells_length]; omega) ?_
      refine JL_loadEA (vs := [_, _, _]) ty48 (Nat.zero_lt_succ _) rfl (by first | exact Reads.view (by repeat (first | with_reducible exact mm0 | refine mmS ?_)) | (exact Reads.own 0 rfl)) (bcells_getA (by omega)) ?_
      refine JL_alloc z48 (fun b9 => ?_)
      refine JL_store (vs := [_, _, _]) 1 ty48 rfl rfl rfl (AllOne.cons rfl (AllOne.cons rfl (AllOne.cons rfl AllOne.nil))) rfl (Nat.le_of_ble_eq_true rfl) ?_
      refine JL_done_up 36 [osl _ _ _ _ _ _, box _ _ [_, _, _]] [_, _, _, _, _] rfl rfl (by simp only [nrmF]; rfl) rfl rfl ?_
      refine JC_seq ?_
      have hbz := fit_len hz (j := j) (by omega)
      have hst := st_len hz (j := j) (by omega)
      obtain ⟨y1, y2, y3, y4, y5, y6⟩ := blk_mem hz (j := j) (by omega)
      refine JC_region ?_
      refine JL_fieldAddr fo48_0 rfl ?_
      refine JL_load 1 ty3 rfl rfl rfl ?_
      refine JL_move rfl ?_
      refine JL_done_up 36 [osl _ _ _ _ _ _, box _ _ [_, _, _]] [_, _, _, _, _] rfl rfl (by simp only [nrmF]; rfl) rfl rfl ?_
      refine JC_block ?_
      refine JC_loopS ((Nat) × (List Fe) × (Option Addr) × (Nat)) (fun (i, l1, ad1, cap1) => i ≤ ((blkL V W).getD j dB).z ∧ l1.map (·.q) = fitB ((blkL V W).take j) ++ List.replicate i (ofq ((blkL V W).getD j dB).s ((blkL V W).getD j dB).w)) (fun (i, l1, ad1, cap1) => ((blkL V W).getD j dB).z - i) (fun u (i, l1, ad1, cap1) => [none, none, none, none, none, none, none, some (.slice ad1 l1.length cap1), none, none, none, none, none, none, none, none, none, none, none, none, none, none, none, none, none, none, some (.int .i64 (i : Nat)), some (u 27), some (u 28), some (u 29), some (u 30), some (u 31), some (u 32), some (u 33), none, none]) (fun (i, l1, ad1, cap1) => [some (osl ad1 l1.length cap1 36 3 (fcells l1)), none]) (fun (i, l1, ad1, cap1) => [(true, vFes l1)]) (0, l, ad, cap) (by kernel_rfl) ?_ (by kernel_rfl) ?_ ?_
      · exact ⟨Nat.zero_le _, by rw [hl]; simp⟩
      · exact (subset_cons (by repeat (first | with_reducible exact mm0 | refine mmS ?_)) subset_nil)
      intro u i hC
      obtain ⟨i, l1, ad1, cap1⟩ := i
      obtain ⟨hi, hl1⟩ := hC
      refine JC_norm ⟨36, [], [_, _, _, _, _, _, _, _, _, _, _, _, _, _, _, _, _, _, _, _, _, _, _, _, _, _, _, _, _, _, _, _, _, _, _, _]⟩ [osl _ _ _ _ _ _, box _ _ [_, _, _]] [_, _, _, _, _, _] rfl rfl rfl ?_
      refine JC_seq ?_
      refine JC_region ?_
      refine JL_lss rfl rfl ?_
      refine JL_split (fun h27 => ?_) (fun h27 => ?_)
      · refine JL_done_up 36 [osl _ _ _ _ _ _, box _ _ [_, _, _]] [_, _, _, _, _, _] rfl rfl (by simp only [nrmF]; rfl) rfl rfl ?_
        refine JC_seq ?_
        refine JC_true rfl ?_
        refine JC_skip ?_
        refine JE_then ?_
        refine JC_seq ?_
        refine JC_block ?_
        have hll : l1.length = (fitB ((blkL V W).take j)).length + i := by have := congrArg List.length hl1; simpa using this
        refine JC_region ?_
        refine JL_move rfl ?_
        refine JL_loadA (vs := [_, _, _]) 1 ty48 rfl rfl ⟨rfl, rfl, rfl, trivial⟩ ?_
        refine JL_callF' Asks.nil (imean_con y3 y4 y5 y6) rfl ca18 ⟨rfl, rfl⟩ ?_
        rintro _ _ ⟨ad30, cp30, be30, ce30, rfl, rfl⟩
        refine JL_buildN (cs0 := [.bool false, .slice none 0 0, .slice none 0 0]) (cs := [_, _, _]) [(0, [_, _, _])] sl28 (by kernel_rfl) ⟨⟨rfl, _, rfl, rfl⟩, rfl⟩ rfl rfl rfl rfl (fun g31 => ?_)
        refine JL_append (news := [_, _, _]) 0 sl28 rfl (by decide) rfl rfl rfl rfl (Reads.own 2 rfl) (AllOne.cons rfl (AllOne.cons rfl (AllOne.cons rfl AllOne.nil))) (by omega) (by omega) (fun ad32 cap32 hc32 => ?_)
        refine JL_dropAt 2 ?_
        refine JL_norm _ [osl _ _ _ _ _ _, box _ _ [_, _, _]] [_, _, _, _, _, _, _, _] rfl rfl rfl ?_
        rw [show fcells l1 ++ [.bool (fneg (some (ofq ((blkL V W).getD j dB).s ((blkL V W).getD j dB).w))), .slice ad30 (fnum (some (ofq ((blkL V W).getD j dB).s ((blkL V W).getD j dB).w))).length cp30, .slice be30 (fden (some (ofq ((blkL V W).getD j dB).s ((blkL V W).getD j dB).w))).length ce30] = fcells (l1 ++ [⟨ad30, cp30, be30, ce30, ofq ((blkL V W).getD j dB).s ((blkL V W).getD j dB).w⟩]) from fcells_snoc l1 ⟨ad30, cp30, be30, ce30, ofq ((blkL V W).getD j dB).s ((blkL V W).getD j dB).w⟩, show l1.length + 1 = (l1 ++ [(⟨ad30, cp30, be30, ce30, ofq ((blkL V W).getD j dB).s ((blkL V W).getD j dB).w⟩ : Fe)]).length from by simp]
        refine JL_fesSnoc (f := true) (l := l1) ⟨ad30, cp30, be30, ce30, ofq ((blkL V W).getD j dB).s ((blkL V W).getD j dB).w⟩ (by repeat (first | with_reducible exact mm0 | refine mmS ?_)) (by repeat (first | with_reducible exact mm0 | refine mmS ?_)) (by repeat (first | with_reducible exact mm0 | refine mmS ?_)) ?_
        refine JL_assign rfl ?_
        refine JL_nil_up 36 [osl _ _ _ _ _ _, box _ _ [_, _, _]] [_, _, _, _, _, _, _, _, _] rfl rfl (by simp only [nrmF]; rfl) rfl rfl ?_
        refine JE_block_normal ?_
        refine JE_then ?_
        refine JC_region ?_
        refine JL_add_to rfl rfl (IntWalk.i64_in _ (by omega)) ?_
        refine JL_move rfl ?_
        refine JL_nil_up 36 [osl _ _ _ _ _ _, box _ _ [_, _, _]] [_, _, _, _, _, _, _, _, _] rfl rfl (by simp only [nrmF]; rfl) rfl rfl ?_
        refine JE_nextS (i + 1, l1 ++ [⟨ad30, cp30, be30, ce30, ofq ((blkL V W).getD j dB).s ((blkL V W).getD j dB).w⟩], ad32, cap32) (by kernel_rfl) ?_ ?_ (by kernel_rfl) ?_
        · exact ⟨by omega, by rw [List.map_append, hl1, List.append_assoc, List.replicate_succ']; rfl⟩
        · first | omega | (dsimp only; omega)
        · exact subset_app (subset_cons (by repeat (first | with_reducible exact mm0 | refine mmS ?_)) subset_nil) (ssS (ssS (ssS (ssS ss0))))
      · refine JL_done_up 36 [osl _ _ _ _ _ _, box _ _ [_, _, _]] [_, _, _, _, _, _] rfl rfl (by simp only [nrmF]; rfl) rfl rfl ?_
        refine JC_seq ?_
        refine JC_false rfl ?_
        refine JC_exit ?_
        refine JE_then_exit ?_
        refine JE_nextS_exit ?_
        refine JE_block_exit ?_
        refine JE_block_normal ?_
        refine JE_then ?_
        refine JC_region ?_
        refine JL_add_to rfl rfl (IntWalk.i64_in _ (by omega)) ?_
        refine JL_move rfl ?_
        refine JL_nil_up 36 [osl _ _ _ _ _ _, box _ _ [_, _, _]] [_, _, _, _, _, _] rfl rfl (by simp only [nrmF]; rfl) rfl rfl ?_
        refine JE_dropAt 1 ?_
        refine JE_norm _ [osl _ _ _ _ _ _] [_, _, _, _, _, _] rfl rfl rfl ?_
        refine JE_nextS (j + 1, l1, ad1, cap1) (by kernel_rfl) ?_ ?_ (by kernel_rfl) ?_
        · exact ⟨by omega, by rw [fitB_take _ _ (by omega), hl1, show i = ((blkL V W).getD j dB).z from by omega]⟩
        · first | omega | (dsimp only; omega)
        · exact subset_app (subset_cons (by repeat (first | with_reducible exact mm0 | refine mmS ?_)) subset_nil) (ssS (ssS ss0))
    · refine JL_done_up 36 [osl _ _ _ _ _ _] [_, _, _, _, _] rfl rfl (by simp only [nrmF]; rfl) rfl rfl ?_
      refine JC_seq ?_
      refine JC_false rfl ?_
      refine JC_exit ?_
      refine JE_then_exit ?_
      refine JE_nextS_exit ?_
      refine JE_block_exit ?_
      refine JE_then ?_
      refine JC_seq ?_
      refine JC_region ?_
      refine JL_move rfl ?_
      refine JL_assign rfl ?_
      refine JL_assign rfl ?_
      refine JL_done_up 36 [osl _ _ _ _ _ _] [_, _, _, _, _] rfl rfl (by simp only [nrmF]; rfl) rfl rfl ?_
      refine JC_ret ?_
      refine JE_give 0 rfl ?_
      refine JE_norm _ [] [_, _, _, _, _, _] rfl rfl rfl ?_
      refine JE_ret (vs := [_, _]) [vCells ad (fcells l), vFes l] Tryd.results8 ⟨rfl, rfl, rfl⟩ ?_ ?_
      · rw [hz]; exact ⟨ad, cap, l, rfl, by rw [fitL, if_pos hz, hl, List.take_of_length_le (by omega)], rfl⟩
      · exact (all_cons (by repeat (first | with_reducible exact mm0 | refine mmS ?_)) (all_cons (by repeat (first | with_reducible exact mm0 | refine mmS ?_)) all_nil))

theorem ibls_con {adv adw : Option Addr} {cv cw : Nat} {V W : List Int} :
    ConF Tryd.prog 11 [.slice adv V.length cv, .slice adw W.length cw] [vCells adv (i64s V), vCells adw (i64s W)]
      (ISE (begL V W) (chk V W)) := by
  refine ConF_of Tryd.func11 rfl 35 _ rfl rfl ?_
  intro w0
  refine JC_norm ⟨35, [], [_, _, _, _, _, _, _, _, _, _, _, _, _, _, _, _, _, _, _, _, _, _, _, _, _, _, _, _, _, _, _, _, _, _, _]⟩ [] [_, _] rfl rfl rfl ?_
  refine JC_seq ?_
  refine JC_region ?_
  refine JL_assign rfl ?_
  refine JL_assign rfl ?_
  refine JL_done_up 35 [] [_, _] rfl rfl (by simp only [nrmF]; rfl) rfl rfl ?_
  refine JC_seq ?_
  refine JC_seq ?_
  refine JC_region ?_
  refine JL_move rfl ?_
  refine JL_move rfl ?_
  refine JL_callF' (Asks.cons (holds_of_mem (by repeat (first | with_reducible exact mm0 | refine mmS ?_))) (Asks.cons (holds_of_mem (by repeat (first | with_reducible exact mm0 | refine mmS ?_))) Asks.nil)) (icheck_con) rfl ca16 ⟨rfl, rfl, rfl⟩ ?_
  rintro _ _ ⟨rfl, rfl⟩
  refine JL_assign rfl ?_
  refine JL_done_up 35 [] [_, _] rfl rfl (by simp only [nrmF]; rfl) rfl rfl ?_
  refine JC_seq ?_
  refine JC_region ?_
  refine JL_move rfl ?_
  refine JL_neq rfl rfl ?_
  refine JL_split (fun h15 => ?_) (fun h15 => ?_)
  · refine JL_done_up 35 [] [_, _] rfl rfl (by simp only [nrmF]; rfl) rfl rfl ?_
    refine JC_true rfl ?_
    refine JC_seq ?_
    refine JC_region ?_
    refine JL_move rfl ?_
    refine JL_assign rfl ?_
    refine JL_assign rfl ?_
    refine JL_done_up 35 [] [_, _] rfl rfl (by simp only [nrmF]; rfl) rfl rfl ?_
    refine JC_ret ?_
    refine JE_then_ret ?_
    refine JE_nilViewI ?_
    refine JE_ret (vs := [_, _]) [vCells none (i64s [])] Tryd.results11 ⟨rfl, rfl, rfl⟩ ?_ ?_
    · rw [begL, if_neg h15]; exact ⟨none, 0, rfl, rfl⟩
    · exact (all_cons (by repeat (first | with_reducible exact mm0 | refine mmS ?_)) all_nil)
  · refine JL_done_up 35 [] [_, _] rfl rfl (by simp only [nrmF]; rfl) rfl rfl ?_
    refine JC_false rfl ?_
    refine JC_skip ?_
    refine JE_then ?_
    refine JC_seq ?_
    refine JC_region ?_
    refine JL_assign rfl ?_
    refine JL_done_up 35 [] [_, _] rfl rfl (by simp only [nrmF]; rfl) rfl rfl ?_
    refine JC_seq ?_
    refine JC_region ?_
    refine JL_assign rfl ?_
    refine JL_done_up 35 [] [_, _] rfl rfl (by simp only [nrmF]; rfl) rfl rfl ?_
    refine JC_seq ?_
    refine JC_seq ?_
    have hz : chk V W = 0 := Classical.byContradiction h15
    obtain ⟨hn, hvw, hok⟩ := chk_zero hz
    refine JC_region ?_
    refine JL_move rfl ?_
    refine JL_move rfl ?_
    refine JL_callF' (Asks.cons (holds_of_mem (by repeat (first | with_reducible exact mm0 | refine mmS ?_))) (Asks.cons (holds_of_mem (by repeat (first | with_reducible exact mm0 | refine mmS ?_))) Asks.nil)) (iblocks_con hz) rfl ca17 ⟨rfl, rfl, rfl⟩ ?_
    rintro _ _ ⟨ad19, c19, rfl, rfl⟩
    refine JL_len sl45 rfl ?_
    refine JL_move rfl ?_
    refine JL_done_up 35 [] [_, _, _] rfl rfl (by simp only [nrmF]; rfl) rfl rfl ?_
    refine JC_block ?_
    refine JC_addNil 3 1 ?_
    refine JC_norm ⟨35, [], [_, _, _, _, _, _, _, _, _, _, _, _, _, _, _, _, _, _, _, _, _, _, _, _, _, _, _, _, _, _, _, _, _, _, _]⟩ [osl _ _ _ _ _ _] [_, _, _] rfl rfl rfl ?_
    refine JC_loopS ((Nat) × (List Int) × (Option Addr) × (Nat)) (fun (j, L, ad, cap) => j ≤ (blkL V W).length ∧ L = (List.range j).map (stB (blkL V W))) (fun (j, L, ad, cap) => (blkL V W).length - j) (fun u (j, L, ad, cap) => [none, none, none, none, none, none, none, some (.slice ad L.length cap), some (.int .i64 (stB (blkL V W) j)), none, some (u 10), none, none, none, none, none, none, none, none, none, none, some (.int .i64 (j : Nat)), some (u 22), some (u 23), some (u 24), some (u 25), some (u 26), some (u 27), some (u 28), some (u 29), some (u 30), some (u 31), some (u 32), some (u 33), none]) (fun (j, L, ad, cap) => [some (osl ad L.length cap 3 1 (i64s L))]) (fun (j, L, ad, cap) => []) (0, [], none, 0) (by kernel_rfl) ?_ (by kernel_rfl) ?_ ?_
    · exact ⟨Nat.zero_le _, rfl⟩
    · exact subset_nil
    intro u i hC
    obtain ⟨j, L, ad, cap⟩ := i
    obtain ⟨hj, hL⟩ := hC
    refine JC_norm ⟨35, [], [_, _, _, _, _, _, _, _, _, _, _, _, _, _, _, _, _, _, _, _, _, _, _, _, _, _, _, _, _, _, _, _, _, _, _]⟩ [osl _ _ _ _ _ _] [_, _, _] rfl rfl rfl ?_
    refine JC_seq ?_
    refine JC_region ?_
    refine JL_lss rfl rfl ?_
    refine JL_split (fun h22 => ?_) (fun h22 => ?_)
    · refine JL_done_up 35 [osl _ _ _ _ _ _] [_, _, _] rfl rfl (by simp only [nrmF]; rfl) rfl rfl ?_
      refine JC_seq ?_
      refine JC_true rfl ?_
      refine JC_skip ?_
      refine JE_then ?_
      refine JC_seq ?_
      refine JC_block ?_
      refine JC_seq ?_
      refine JC_region ?_
      refine JL_indexAddr j sl45 rfl rfl rfl (by omega) (by first | exact Reads.view (by repeat (first | with_reducible exact mm0 | refine mmS ?_)) | (exact Reads.own 0 rfl)) (by rw [bcells_length]; omega) ?_
      refine JL_loadEA (vs := [_, _, _]) ty48 (Nat.zero_lt_succ _) rfl (by first | exact Reads.view (by repeat (first | with_reducible exact mm0 | refine mmS ?_)) | (exact Reads.own 0 rfl)) (bcells_getA (by omega)) ?_
      refine JL_alloc z48 (fun b10 => ?_)
      refine JL_store (vs := [_, _, _]) 1 ty48 rfl rfl rfl (AllOne.cons rfl (AllOne.cons rfl (AllOne.cons rfl AllOne.nil))) rfl (Nat.le_of_ble_eq_true rfl) ?_
      refine JL_done_up 35 [osl _ _ _ _ _ _, box _ _ [_, _, _]] [_, _, _] rfl rfl (by simp only [nrmF]; rfl) rfl rfl ?_
      refine JC_seq ?_
      have hbz := st_len hz (j := j) (by omega)
      have hLl : L.length = j := by rw [hL]; simp
      refine JC_region ?_
      refine JL_move rfl ?_
      refine JL_move rfl ?_
      refine JL_build1 sl22 rfl rfl (fun g27 => ?_)
      refine JL_appendI (L := _) 0 2 sl22 rfl rfl rfl rfl (by omega) (by omega) (fun ad28 cap28 hc28 => ?_)
      refine JL_dropAt 2 ?_
      refine JL_norm _ [osl _ _ _ _ _ _, box _ _ [_, _, _]] [_, _, _] rfl rfl rfl ?_
      rw [show L.length + 1 = (L ++ [stB (blkL V W) j]).length from by simp]
      refine JL_assign rfl ?_
      refine JL_done_up 35 [osl _ _ _ _ _ _, box _ _ [_, _, _]] [_, _, _] rfl rfl (by simp only [nrmF]; rfl) rfl rfl ?_
      refine JC_region ?_
      refine JL_move rfl ?_
      refine JL_fieldAddr fo48_0 rfl ?_
      refine JL_load 1 ty3 rfl rfl rfl ?_
      refine JL_add_to rfl rfl (IntWalk.i64_in _ (by omega)) ?_
      rw [show (stB (blkL V W) j + (((blkL V W).getD j dB).z : Int) : Int) = stB (blkL V W) (j + 1) from (stB_succ _ _ (by omega)).symm]
      refine JL_assign rfl ?_
      refine JL_nil_up 35 [osl _ _ _ _ _ _, box _ _ [_, _, _]] [_, _, _] rfl rfl (by simp only [nrmF]; rfl) rfl rfl ?_
      refine JE_block_normal ?_
      refine JE_then ?_
      refine JC_region ?_
      refine JL_add_to rfl rfl (IntWalk.i64_in _ (by omega)) ?_
      refine JL_move rfl ?_
      refine JL_nil_up 35 [osl _ _ _ _ _ _, box _ _ [_, _, _]] [_, _, _] rfl rfl (by simp only [nrmF]; rfl) rfl rfl ?_
      refine JE_dropAt 1 ?_
      refine JE_norm _ [osl _ _ _ _ _ _] [_, _, _] rfl rfl rfl ?_
      refine JE_nextS (j + 1, L ++ [stB (blkL V W) j], ad28, cap28) (by kernel_rfl) ?_ ?_ (by kernel_rfl) ?_
      · exact ⟨by omega, by rw [List.range_succ, List.map_append, ← hL]; rfl⟩
      · first | omega | (dsimp only; omega)
      · exact subset_app subset_nil ss0
    · refine JL_done_up 35 [osl _ _ _ _ _ _] [_, _, _] rfl rfl (by simp only [nrmF]; rfl) rfl rfl ?_
      refine JC_seq ?_
      refine JC_false rfl ?_
      refine JC_exit ?_
      refine JE_then_exit ?_
      refine JE_nextS_exit ?_
      refine JE_block_exit ?_
      refine JE_then ?_
      refine JC_seq ?_
      refine JC_region ?_
      refine JL_move rfl ?_
      refine JL_assign rfl ?_
      refine JL_assign rfl ?_
      refine JL_done_up 35 [osl _ _ _ _ _ _] [_, _, _] rfl rfl (by simp only [nrmF]; rfl) rfl rfl ?_
      refine JC_ret ?_
      have hje : j = (blkL V W).length := by omega
      subst hje
      have hLb : L = begL V W := by rw [begL, if_pos hz]; exact hL
      subst hLb
      refine JE_give 0 rfl ?_
      refine JE_norm _ [] [_, _, _, _] rfl rfl rfl ?_
      refine JE_ret (vs := [_, _]) [vCells ad (i64s (begL V W))] Tryd.results11 ⟨rfl, rfl, rfl⟩ ?_ ?_
      · rw [hz]; exact ⟨ad, cap, rfl, rfl⟩
      · exact (all_cons (by repeat (first | with_reducible exact mm0 | refine mmS ?_)) all_nil)

end Go.Fw.K
