/- Walks through functions of the given program: each meets its contract. (Printed by a program of this repo.) -/
import Derived.Test.YtjolkfkekeolcaaGreatDoorS14
import Derived.Test.YtjolkfkekeolcaaGreatDoorProg
namespace Go.Fw.S15
open Go Go.RowKit Go.Proofs Go.Nat9 Go.Fw
attribute [local irreducible] JC JL JE
theorem ca14 : callable Tryz.prog 14 = true := by kernel_rfl
theorem ca16 : callable Tryz.prog 16 = true := by kernel_rfl
theorem ca28 : callable Tryz.prog 28 = true := by kernel_rfl
theorem ca32 : callable Tryz.prog 32 = true := by kernel_rfl
theorem ca45 : callable Tryz.prog 45 = true := by kernel_rfl
theorem ca52 : callable Tryz.prog 52 = true := by kernel_rfl
theorem mixed : Tryz.prog.follows .mixedOrders = true := by kernel_rfl
theorem sl37 : slOf Tryz.prog 37 = some (3, 1, 8, [.int .i64 0]) := by kernel_rfl
theorem sl48 : slOf Tryz.prog 48 = some (26, 3, 56, [.bool false, .slice none 0 0, .slice none 0 0]) := by kernel_rfl
theorem ty26 : tyOf Tryz.prog 26 = some (true, 3) := by kernel_rfl
theorem z26 : zeroOf Tryz.prog 26 = some [.bool false, .slice none 0 0, .slice none 0 0] := by kernel_rfl
end Go.Fw.S15
namespace Go.Fw.K
open Go Go.RowKit Go.Proofs Go.Nat9 Go.Fw Go.Fw.S15
attribute [local irreducible] JC JL JE

set_option maxHeartbeats 1000000 in
theorem ibest_con {tol m : Int} {ad : Option Addr} {c : Nat} {L : List Int} {ad3 : Option Addr} {c3 : Nat} {l : List Fi} (hl : ∀ x ∈ l, x.ok 4) (hn3 : l.length ≤ 1000000) :
    ConF Tryz.prog 21 [.slice ad L.length c, .slice ad3 l.length c3, .int .i64 tol, .int .i64 m] [vCells ad (i64s L), vCells ad3 (rcells l), vFis l]
      (fun v φo => v = .tuple #[.int .i64 (bestK L l tol m), .int .i64 (bestE L l tol m)] ∧ φo = []) := by
  refine ConF_of Tryz.func21 rfl 94 _ rfl rfl ?_
  intro w0
  refine JC_norm ⟨94, [], [_, _, _, _, _, _, _, _, _, _, _, _, _, _, _, _, _, _, _, _, _, _, _, _, _, _, _, _, _, _, _, _, _, _, _, _, _, _, _, _, _, _, _, _, _, _, _, _, _, _, _, _, _, _, _, _, _, _, _, _, _, _, _, _, _, _, _, _, _, _, _, _, _, _, _, _, _, _, _, _, _, _, _, _, _, _, _, _, _, _, _, _, _, _]⟩ [] [_, _, _] rfl rfl rfl ?_
  refine JC_seq ?_
  refine JC_region ?_
  refine JL_assign rfl ?_
  refine JL_assign rfl ?_
  refine JL_done_up 94 [] [_, _, _] rfl rfl (by simp only [nrmF]; rfl) rfl rfl ?_
  refine JC_seq ?_
  refine JC_region ?_
  refine JL_assign rfl ?_
  refine JL_done_up 94 [] [_, _, _] rfl rfl (by simp only [nrmF]; rfl) rfl rfl ?_
  refine JC_seq ?_
  refine JC_seq ?_
  refine JC_region ?_
  refine JL_move rfl ?_
  refine JL_callF' (Asks.cons (holds_of_mem (by repeat (first | with_reducible exact mm0 | refine mmS ?_))) Asks.nil) (icheck_con) rfl ca45 ⟨rfl, rfl⟩ ?_
  rintro _ _ ⟨rfl, rfl⟩
  refine JL_assign rfl ?_
  refine JL_done_up 94 [] [_, _, _] rfl rfl (by simp only [nrmF]; rfl) rfl rfl ?_
  refine JC_block ?_
  refine JC_seq ?_
  refine JC_region ?_
  refine JL_move rfl ?_
  refine JL_eql rfl rfl ?_
  refine JL_split (fun h25 => ?_) (fun h25 => ?_)
  · refine JL_move rfl ?_
    refine JL_guard_no rfl rfl ?_
    refine JL_guard_no rfl rfl ?_
    refine JL_guard_no rfl rfl ?_
    refine JL_pick_t rfl rfl ?_
    refine JL_assign rfl ?_
    refine JL_done_up 94 [] [_, _, _] rfl rfl (by simp only [nrmF]; rfl) rfl rfl ?_
    refine JC_true rfl ?_
    refine JC_seq ?_
    refine JC_region ?_
    refine JL_assign rfl ?_
    refine JL_assign rfl ?_
    refine JL_done_up 94 [] [_, _, _] rfl rfl (by simp only [nrmF]; rfl) rfl rfl ?_
    refine JC_ret ?_
    refine JE_block_ret ?_
    refine JE_then_ret ?_
    have he : bestE L l tol m = 6 := bestE_6 (by omega)
    refine JE_ret (vs := [_, _]) [] Tryz.results21 ⟨rfl, rfl, rfl⟩ ?_ ?_
    · rw [bestK_no (by rw [he]; first | assumption | decide), he]; exact ⟨rfl, rfl⟩
    · exact all_nil
  · refine JL_move rfl ?_
    refine JL_guard_yes rfl rfl ?_
    refine JL_move rfl ?_
    refine JL_guard_yes rfl rfl ?_
    refine JL_len sl48 rfl ?_
    refine JL_guard_yes rfl rfl ?_
    refine JL_gtr rfl rfl ?_
    refine JL_split (fun h29 => ?_) (fun h29 => ?_)
    · refine JL_pick_f rfl rfl ?_
      refine JL_assign rfl ?_
      refine JL_done_up 94 [] [_, _, _] rfl rfl (by simp only [nrmF]; rfl) rfl rfl ?_
      refine JC_true rfl ?_
      refine JC_seq ?_
      refine JC_region ?_
      refine JL_assign rfl ?_
      refine JL_assign rfl ?_
      refine JL_done_up 94 [] [_, _, _] rfl rfl (by simp only [nrmF]; rfl) rfl rfl ?_
      refine JC_ret ?_
      refine JE_block_ret ?_
      refine JE_then_ret ?_
      have he : bestE L l tol m = 6 := bestE_6 (by omega)
      refine JE_ret (vs := [_, _]) [] Tryz.results21 ⟨rfl, rfl, rfl⟩ ?_ ?_
      · rw [bestK_no (by rw [he]; first | assumption | decide), he]; exact ⟨rfl, rfl⟩
      · exact all_nil
    · refine JL_pick_f rfl rfl ?_
      refine JL_assign rfl ?_
      refine JL_done_up 94 [] [_, _, _] rfl rfl (by simp only [nrmF]; rfl) rfl rfl ?_
      refine JC_false rfl ?_
      refine JC_seq ?_
      refine JC_region ?_
      refine JL_move rfl ?_
      refine JL_neq rfl rfl ?_
      refine JL_split (fun h33 => ?_) (fun h33 => ?_)
      · refine JL_move rfl ?_
        refine JL_guard_no rfl rfl ?_
        refine JL_guard_no rfl rfl ?_
        refine JL_guard_no rfl rfl ?_
        refine JL_pick_t rfl rfl ?_
        refine JL_assign rfl ?_
        refine JL_done_up 94 [] [_, _, _] rfl rfl (by simp only [nrmF]; rfl) rfl rfl ?_
        refine JC_true rfl ?_
        refine JC_seq ?_
        refine JC_region ?_
        refine JL_assign rfl ?_
        refine JL_assign rfl ?_
        refine JL_done_up 94 [] [_, _, _] rfl rfl (by simp only [nrmF]; rfl) rfl rfl ?_
        refine JC_ret ?_
        refine JE_block_ret ?_
        refine JE_then_ret ?_
        have he : bestE L l tol m = 1 := bestE_1 (by omega) (by first | exact .inl h33 | exact .inr h37)
        refine JE_ret (vs := [_, _]) [] Tryz.results21 ⟨rfl, rfl, rfl⟩ ?_ ?_
        · rw [bestK_no (by rw [he]; first | assumption | decide), he]; exact ⟨rfl, rfl⟩
        · exact all_nil
      · refine JL_move rfl ?_
        refine JL_guard_yes rfl rfl ?_
        refine JL_move rfl ?_
        refine JL_guard_yes rfl rfl ?_
        refine JL_move rfl ?_
        refine JL_guard_yes rfl rfl ?_
        refine JL_callF' (Asks.cons (holds_of_mem (by repeat (first | with_reducible exact mm0 | refine mmS ?_))) (Asks.cons (holds_of_mem (by repeat (first | with_reducible exact mm0 | refine mmS ?_))) (Asks.cons (Asks.list (l := []) Asks.nil) Asks.nil))) (contF_con (f := 51) (caps := []) (vc := vList []) (by kernel_rfl) (fun k => !decide (0 < (l.getD k dI).q)) (by omega) (fun k hk => (bestcl_con ((hl _ (fi_mem hk)).mono (by decide))).views (fun w h p hp => h p (by simp only [List.mem_cons, List.not_mem_nil, or_false] at hp ⊢; rcases hp with rfl | rfl <;> simp)))) rfl ca52 ⟨rfl, rfl, rfl⟩ ?_
        rintro _ _ ⟨rfl, rfl⟩
        refine JL_splitV (fun h37 => ?_) (fun h37 => ?_)
        · refine JL_pick_f rfl rfl ?_
          refine JL_assign rfl ?_
          refine JL_done_up 94 [] [_, _, _] rfl rfl (by simp only [nrmF]; rfl) rfl rfl ?_
          refine JC_true rfl ?_
          refine JC_seq ?_
          refine JC_region ?_
          refine JL_assign rfl ?_
          refine JL_assign rfl ?_
          refine JL_done_up 94 [] [_, _, _] rfl rfl (by simp only [nrmF]; rfl) rfl rfl ?_
          refine JC_ret ?_
          refine JE_block_ret ?_
          refine JE_then_ret ?_
          have he : bestE L l tol m = 1 := bestE_1 (by omega) (by first | exact .inl h33 | exact .inr h37)
          refine JE_ret (vs := [_, _]) [] Tryz.results21 ⟨rfl, rfl, rfl⟩ ?_ ?_
          · rw [bestK_no (by rw [he]; first | assumption | decide), he]; exact ⟨rfl, rfl⟩
          · exact all_nil
        · refine JL_pick_f rfl rfl ?_
          refine JL_assign rfl ?_
          refine JL_done_up 94 [] [_, _, _] rfl rfl (by simp only [nrmF]; rfl) rfl rfl ?_
          refine JC_false rfl ?_
          refine JC_seq ?_
          refine JC_region ?_
          refine JL_move rfl ?_
          refine JL_move rfl ?_
          refine JL_callF' Asks.nil (ilim_con) rfl ca28 ⟨rfl, rfl, rfl⟩ ?_
          rintro _ _ ⟨rfl, rfl⟩
          refine JL_neq rfl rfl ?_
          refine JL_split (fun h43 => ?_) (fun h43 => ?_)
          · refine JL_assign rfl ?_
            refine JL_done_up 94 [] [_, _, _] rfl rfl (by simp only [nrmF]; rfl) rfl rfl ?_
            refine JC_true rfl ?_
            refine JC_seq ?_
            refine JC_region ?_
            refine JL_assign rfl ?_
            refine JL_assign rfl ?_
            refine JL_done_up 94 [] [_, _, _] rfl rfl (by simp only [nrmF]; rfl) rfl rfl ?_
            refine JC_ret ?_
            refine JE_block_ret ?_
            refine JE_then_ret ?_
            have he : bestE L l tol m = 2 := bestE_2 (by omega) (fun e => e.elim h33 (ne_true_of_eq_false h37)) h43
            refine JE_ret (vs := [_, _]) [] Tryz.results21 ⟨rfl, rfl, rfl⟩ ?_ ?_
            · rw [bestK_no (by rw [he]; first | assumption | decide), he]; exact ⟨rfl, rfl⟩
            · exact all_nil
          · refine JL_assign rfl ?_
            refine JL_done_up 94 [] [_, _, _] rfl rfl (by simp only [nrmF]; rfl) rfl rfl ?_
            refine JC_false rfl ?_
            refine JC_seq ?_
            refine JC_region ?_
            refine JL_move rfl ?_
            refine JL_len sl37 rfl ?_
            refine JL_eql rfl rfl ?_
            refine JL_split (fun h47 => ?_) (fun h47 => ?_)
            · refine JL_move rfl ?_
              refine JL_guard_no rfl rfl ?_
              refine JL_guard_no rfl rfl ?_
              refine JL_guard_no rfl rfl ?_
              refine JL_pick_t rfl rfl ?_
              refine JL_assign rfl ?_
              refine JL_done_up 94 [] [_, _, _] rfl rfl (by simp only [nrmF]; rfl) rfl rfl ?_
              refine JC_true rfl ?_
              refine JC_seq ?_
              refine JC_region ?_
              refine JL_assign rfl ?_
              refine JL_assign rfl ?_
              refine JL_done_up 94 [] [_, _, _] rfl rfl (by simp only [nrmF]; rfl) rfl rfl ?_
              refine JC_ret ?_
              refine JE_block_ret ?_
              refine JE_then_ret ?_
              have he : bestE L l tol m = 7 := bestE_7 (by omega) (fun e => e.elim h33 (ne_true_of_eq_false h37)) h43 (by omega)
              refine JE_ret (vs := [_, _]) [] Tryz.results21 ⟨rfl, rfl, rfl⟩ ?_ ?_
              · rw [bestK_no (by rw [he]; first | assumption | decide), he]; exact ⟨rfl, rfl⟩
              · exact all_nil
            · refine JL_move rfl ?_
              refine JL_guard_yes rfl rfl ?_
              refine JL_move rfl ?_
              refine JL_guard_yes rfl rfl ?_
              refine JL_len sl48 rfl ?_
              refine JL_guard_yes rfl rfl ?_
              refine JL_eql rfl rfl ?_
              refine JL_split (fun h51 => ?_) (fun h51 => ?_)
              · refine JL_pick_f rfl rfl ?_
                refine JL_assign rfl ?_
                refine JL_done_up 94 [] [_, _, _] rfl rfl (by simp only [nrmF]; rfl) rfl rfl ?_
                refine JC_true rfl ?_
                refine JC_seq ?_
                refine JC_region ?_
                refine JL_assign rfl ?_
                refine JL_assign rfl ?_
                refine JL_done_up 94 [] [_, _, _] rfl rfl (by simp only [nrmF]; rfl) rfl rfl ?_
                refine JC_ret ?_
                refine JE_block_ret ?_
                refine JE_then_ret ?_
                have he : bestE L l tol m = 7 := bestE_7 (by omega) (fun e => e.elim h33 (ne_true_of_eq_false h37)) h43 (by omega)
                refine JE_ret (vs := [_, _]) [] Tryz.results21 ⟨rfl, rfl, rfl⟩ ?_ ?_
                · rw [bestK_no (by rw [he]; first | assumption | decide), he]; exact ⟨rfl, rfl⟩
                · exact all_nil
              · refine JL_pick_f rfl rfl ?_
                refine JL_assign rfl ?_
                refine JL_done_up 94 [] [_, _, _] rfl rfl (by simp only [nrmF]; rfl) rfl rfl ?_
                refine JC_false rfl ?_
                refine JC_skip ?_
                refine JE_block_normal ?_
                refine JE_then ?_
                refine JC_seq ?_
                refine JC_region ?_
                refine JL_assign rfl ?_
                refine JL_assign rfl ?_
                refine JL_done_up 94 [] [_, _, _] rfl rfl (by simp only [nrmF]; rfl) rfl rfl ?_
                refine JC_seq ?_
                refine JC_region ?_
                refine JL_alloc z26 (fun b14 => ?_)
                refine JL_done_up 94 [box _ _ [_, _, _]] [_, _, _] rfl rfl (by simp only [nrmF]; rfl) rfl rfl ?_
                refine JC_seq ?_
                refine JC_seq ?_
                refine JC_region ?_
                refine JL_move rfl ?_
                refine JL_len sl48 rfl ?_
                refine JL_move rfl ?_
                refine JL_done_up 94 [box _ _ [_, _, _]] [_, _, _] rfl rfl (by simp only [nrmF]; rfl) rfl rfl ?_
                refine JC_block ?_
                refine JC_addView (f := true) (p := vCells none (u32s (fnum (none : Option Rat)))) (fun _ _ => nil_view) ?_
                refine JC_addView (f := true) (p := vCells none (u32s (fden (none : Option Rat)))) (fun _ _ => nil_view) ?_
                refine JC_loopS ((Nat) × (Nat) × (Int) × (Option Rat) × (Option Addr) × (Nat) × (Option Addr) × (Nat)) (fun (i, k, s, o, ad, c, be, e) => i ≤ l.length ∧ bst L l tol m i = (k, s, o)) (fun (i, k, s, o, ad, c, be, e) => l.length - i) (fun u (i, k, s, o, ad, c, be, e) => [none, none, none, none, none, none, none, none, none, none, none, none, some (.int .i64 (k : Nat)), some (.int .i64 s), none, some (u 15), some (u 16), some (u 17), some (u 18), some (u 19), some (u 20), none, none, none, none, none, none, none, none, none, none, none, none, none, none, none, none, none, none, none, none, none, none, none, none, none, none, none, none, none, none, none, none, none, none, some (.int .i64 (i : Nat)), some (u 56), some (u 57), some (u 58), some (u 59), some (u 60), some (u 61), some (u 62), some (u 63), some (u 64), some (u 65), some (u 66), some (u 67), some (u 68), some (u 69), some (u 70), some (u 71), some (u 72), some (u 73), some (u 74), some (u 75), some (u 76), some (u 77), some (u 78), some (u 79), some (u 80), some (u 81), some (u 82), some (u 83), some (u 84), some (u 85), some (u 86), some (u 87), some (u 88), some (u 89), some (u 90), some (u 91), some (u 92), none]) (fun (i, k, s, o, ad, c, be, e) => [some (box b14 26 [.bool (fneg (o)), .slice ad (fnum (o)).length c, .slice be (fden (o)).length e])]) (fun (i, k, s, o, ad, c, be, e) => [(true, vCells ad (u32s (fnum (o)))), (true, vCells be (u32s (fden (o))))]) (0, 0, (-1), (none : Option Rat), none, 0, none, 0) (by kernel_rfl) ?_ (by kernel_rfl) ?_ ?_
                · exact ⟨by omega, rfl⟩
                · exact (subset_cons (by repeat (first | with_reducible exact mm0 | refine mmS ?_)) (subset_cons (by repeat (first | with_reducible exact mm0 | refine mmS ?_)) subset_nil))
                intro u i hC
                obtain ⟨i, k, s, o, ad, c, be, e⟩ := i
                obtain ⟨hi, hB⟩ := hC
                refine JC_norm ⟨94, [], [_, _, _, _, _, _, _, _, _, _, _, _, _, _, _, _, _, _, _, _, _, _, _, _, _, _, _, _, _, _, _, _, _, _, _, _, _, _, _, _, _, _, _, _, _, _, _, _, _, _, _, _, _, _, _, _, _, _, _, _, _, _, _, _, _, _, _, _, _, _, _, _, _, _, _, _, _, _, _, _, _, _, _, _, _, _, _, _, _, _, _, _, _, _]⟩ [box _ _ [_, _, _]] [_, _, _, _, _, _, _] rfl rfl rfl ?_
                refine JC_seq ?_
                refine JC_region ?_
                refine JL_lss rfl rfl ?_
                refine JL_split (fun h56 => ?_) (fun h56 => ?_)
                · refine JL_done_up 94 [box _ _ [_, _, _]] [_, _, _, _, _, _, _] rfl rfl (by simp only [nrmF]; rfl) rfl rfl ?_
                  refine JC_seq ?_
                  refine JC_true rfl ?_
                  refine JC_skip ?_
                  refine JE_then ?_
                  refine JC_seq ?_
                  refine JC_block ?_
                  refine JC_seq ?_
                  have hxi := hl _ (fi_mem (l := l) (j := i) (by omega))
                  have hqx : qs (fval (errO L (l.getD i dI).q m)) 12 := qs_errO (FIn.qs hxi)
                  have hqo : qs (fval o) 12 := by have e := qs_bst (L := L) (tol := tol) (m := m) hl hi; rw [hB] at e; exact e
                  refine JC_fisGet (f := false) (l := l) (l.getD i dI) (by repeat (first | with_reducible exact mm0 | refine mmS ?_)) (fi_mem (by omega)) ?_
                  refine JC_region ?_
                  refine JL_move rfl ?_
                  refine JL_indexAddr i sl48 rfl rfl rfl (by omega) (by first | exact Reads.view (by repeat (first | with_reducible exact mm0 | refine mmS ?_))) (by rw [rcells_length]; omega) ?_
                  refine JL_loadEA (vs := [_, _, _]) ty26 (Nat.zero_lt_succ _) rfl (by first | exact Reads.view (by repeat (first | with_reducible exact mm0 | refine mmS ?_))) (rcells_getA (by omega)) ?_
                  refine JL_alloc z26 (fun b16 => ?_)
                  refine JL_assign rfl ?_
                  refine JL_store (vs := [_, _, _]) 1 ty26 rfl rfl rfl (AllOne.cons rfl (AllOne.cons rfl (AllOne.cons rfl AllOne.nil))) rfl (Nat.le_of_ble_eq_true rfl) ?_
                  refine JL_done_up 94 [box _ _ [_, _, _], box _ _ [_, _, _]] [_, _, _, _, _, _, _, _, _] rfl rfl (by simp only [nrmF]; rfl) rfl rfl ?_
                  refine JC_seq ?_
                  refine JC_region ?_
                  refine JL_move rfl ?_
                  refine JL_loadA (vs := [_, _, _]) 1 ty26 rfl rfl ⟨rfl, rfl, rfl, trivial⟩ ?_
                  refine JL_move rfl ?_
                  refine JL_move rfl ?_
                  refine JL_callF' (Asks.cons (holds_of_mem (by repeat (first | with_reducible exact mm0 | refine mmS ?_))) (Asks.cons (holds_of_mem (by repeat (first | with_reducible exact mm0 | refine mmS ?_))) (Asks.cons (holds_of_mem (by repeat (first | with_reducible exact mm0 | refine mmS ?_))) Asks.nil))) (iscore_con (tol := tol) (m := m) (hxi.mono (by decide))) rfl ca16 ⟨rfl, rfl, rfl, rfl, rfl⟩ ?_
                  rintro _ _ ⟨rfl, rfl⟩
                  refine JL_move rfl ?_
                  refine JL_extract rfl rfl ?_
                  refine JL_extract rfl rfl ?_
                  refine JL_assign rfl ?_
                  refine JL_assign rfl ?_
                  refine JL_done_up 94 [box _ _ [_, _, _], box _ _ [_, _, _]] [_, _, _, _, _, _, _, _, _] rfl rfl (by simp only [nrmF]; rfl) rfl rfl ?_
                  refine JC_seq ?_
                  refine JC_region ?_
                  refine JL_move rfl ?_
                  refine JL_loadA (vs := [_, _, _]) 1 ty26 rfl rfl ⟨rfl, rfl, rfl, trivial⟩ ?_
                  refine JL_move rfl ?_
                  refine JL_callF' (Asks.cons (holds_of_mem (by repeat (first | with_reducible exact mm0 | refine mmS ?_))) (Asks.cons (holds_of_mem (by repeat (first | with_reducible exact mm0 | refine mmS ?_))) (Asks.cons (holds_of_mem (by repeat (first | with_reducible exact mm0 | refine mmS ?_))) Asks.nil))) (ierror_con (m := m) hxi) rfl ca14 ⟨rfl, rfl, rfl, rfl⟩ ?_
                  rintro _ _ ⟨ad72, cp72, be72, ce72, rfl, rfl⟩
                  refine JL_move rfl ?_
                  refine JL_extract rfl rfl ?_
                  refine JL_extract rfl rfl ?_
                  refine JL_alloc z26 (fun b19 => ?_)
                  refine JL_store (vs := [_, _, _]) 2 ty26 rfl rfl rfl (AllOne.cons rfl (AllOne.cons rfl (AllOne.cons rfl AllOne.nil))) rfl (Nat.le_of_ble_eq_true rfl) ?_
                  refine JL_assign rfl ?_
                  refine JL_done_up 94 [box _ _ [_, _, _], box _ _ [_, _, _], box _ _ [_, _, _]] [_, _, _, _, _, _, _, _, _, _, _] rfl rfl (by simp only [nrmF]; rfl) rfl rfl ?_
                  refine JC_seq ?_
                  refine JC_region ?_
                  refine JL_move rfl ?_
                  refine JL_move rfl ?_
                  refine JL_gtr rfl rfl ?_
                  refine JL_split (fun h77 => ?_) (fun h77 => ?_)
                  · refine JL_move rfl ?_
                    refine JL_guard_no rfl rfl ?_
                    refine JL_guard_no rfl rfl ?_
                    refine JL_guard_no rfl rfl ?_
                    refine JL_guard_no rfl rfl ?_
                    refine JL_guard_un rfl rfl ?_
                    refine JL_guard_un rfl rfl ?_
                    refine JL_guard_un rfl rfl ?_
                    refine JL_guard_un rfl rfl ?_
                    refine JL_guard_no rfl rfl ?_
                    refine JL_pick_t rfl rfl ?_
                    refine JL_done_up 94 [box _ _ [_, _, _], box _ _ [_, _, _], box _ _ [_, _, _]] [_, _, _, _, _, _, _, _, _, _, _] rfl rfl (by simp only [nrmF]; rfl) rfl rfl ?_
                    refine JC_true rfl ?_
                    refine JC_drawT mixed 5 [spV 89 [] _, spV 90 [] _, spV 91 [] _, spV 12 [0] _, spV 13 [1] _] ⟨OblS_V (fun vals ex ψ => (by
                        refine JL_normQ ⟨94, [(89, _), (90, _), (91, _), (12, _), (13, _)], _⟩ (_ :: _ :: _ :: _ :: _ :: _ :: _ :: _ :: _ :: _ :: _ :: ψ) rfl rfl ?_
                        refine JL_move rfl ?_
                        exact JL_nil (JE_stepV rfl ss0))), OblS_V (fun vals ex ψ => (by
                        refine JL_normQ ⟨94, [(89, _), (90, _), (91, _), (12, _), (13, _)], _⟩ (_ :: _ :: _ :: _ :: _ :: _ :: _ :: _ :: _ :: _ :: _ :: ψ) rfl rfl ?_
                        refine JL_move rfl ?_
                        exact JL_nil (JE_stepV rfl ss0))), OblS_V (fun vals ex ψ => (by
                        refine JL_normQ ⟨94, [(89, _), (90, _), (91, _), (12, _), (13, _)], _⟩ (_ :: _ :: _ :: _ :: _ :: _ :: _ :: _ :: _ :: _ :: _ :: ψ) rfl rfl ?_
                        refine JL_loadA (vs := [_, _, _]) 2 ty26 rfl rfl ⟨rfl, rfl, rfl, trivial⟩ ?_
                        exact JL_nil (JE_stepV rfl ss0))), OblS_V (fun vals ex ψ => (by
                        refine JL_normQ ⟨94, [(89, _), (90, _), (91, _), (12, _), (13, _)], _⟩ (_ :: _ :: _ :: _ :: _ :: _ :: _ :: _ :: _ :: _ :: _ :: ψ) rfl rfl ?_
                        refine JL_assign rfl ?_
                        exact JL_nil (JE_stepV rfl ss0))), OblS_V (fun vals ex ψ => (by
                        refine JL_normQ ⟨94, [(89, _), (90, _), (91, _), (12, _), (13, _)], _⟩ (_ :: _ :: _ :: _ :: _ :: _ :: _ :: _ :: _ :: _ :: _ :: ψ) rfl rfl ?_
                        refine JL_assign rfl ?_
                        exact JL_nil (JE_stepV rfl ss0))), trivial⟩ (by kernel_rfl) (fun vals bs => ?_)
                    refine JL_normL [_] ⟨94, [(89, _), (90, _), (91, _), (12, _), (13, _)], _⟩ [box _ _ [_, _, _], box _ _ [_, _, _], box _ _ [_, _, _]] [_, _, _, _, _, _, _, _, _, _, _] rfl rfl rfl rfl ?_
                    refine JL_store (vs := [_, _, _]) 0 ty26 rfl rfl rfl (AllOne.cons rfl (AllOne.cons rfl (AllOne.cons rfl AllOne.nil))) rfl (Nat.le_of_ble_eq_true rfl) ?_
                    refine JL_nil_up 94 [box _ _ [_, _, _], box _ _ [_, _, _], box _ _ [_, _, _]] [_, _, _, _, _, _, _, _, _, _, _] rfl rfl (by simp only [nrmF]; rfl) rfl rfl ?_
                    refine JE_block_normal ?_
                    refine JE_then ?_
                    refine JC_region ?_
                    refine JL_add_to rfl rfl (IntWalk.i64_in _ (by omega)) ?_
                    refine JL_move rfl ?_
                    refine JL_nil_up 94 [box _ _ [_, _, _], box _ _ [_, _, _], box _ _ [_, _, _]] [_, _, _, _, _, _, _, _, _, _, _] rfl rfl (by simp only [nrmF]; rfl) rfl rfl ?_
                    refine JE_dropAt 2 ?_
                    refine JE_norm _ [box _ _ [_, _, _], box _ _ [_, _, _]] [_, _, _, _, _, _, _, _, _, _, _] rfl rfl rfl ?_
                    refine JE_dropAt 1 ?_
                    refine JE_norm _ [box _ _ [_, _, _]] [_, _, _, _, _, _, _, _, _, _, _] rfl rfl rfl ?_
                    refine JE_nextS (i + 1, i, scoK L (l.getD i dI).q tol m, errO L (l.getD i dI).q m, ad72, cp72, be72, ce72) (by kernel_rfl) ?_ ?_ (by kernel_rfl) ?_
                    · exact ⟨by omega, bst_up hB (.inl h77)⟩
                    · first | omega | (dsimp only; omega)
                    · exact subset_app (subset_cons (by repeat (first | with_reducible exact mm0 | refine mmS ?_)) (subset_cons (by repeat (first | with_reducible exact mm0 | refine mmS ?_)) subset_nil)) (ssS (ssS (ssS (ssS (ssS (ssS ss0))))))
                  · refine JL_move rfl ?_
                    refine JL_guard_yes rfl rfl ?_
                    refine JL_move rfl ?_
                    refine JL_guard_yes rfl rfl ?_
                    refine JL_move rfl ?_
                    refine JL_guard_yes rfl rfl ?_
                    refine JL_eql rfl rfl ?_
                    refine JL_split (fun h81 => ?_) (fun h81 => ?_)
                    · refine JL_guard_yes rfl rfl ?_
                      refine JL_move rfl ?_
                      refine JL_guard_yes rfl rfl ?_
                      refine JL_loadA (vs := [_, _, _]) 2 ty26 rfl rfl ⟨rfl, rfl, rfl, trivial⟩ ?_
                      refine JL_guard_yes rfl rfl ?_
                      refine JL_loadA (vs := [_, _, _]) 0 ty26 rfl rfl ⟨rfl, rfl, rfl, trivial⟩ ?_
                      refine JL_guard_yes rfl rfl ?_
                      refine JL_callF' (Asks.cons (holds_of_mem (by repeat (first | with_reducible exact mm0 | refine mmS ?_))) (Asks.cons (holds_of_mem (by repeat (first | with_reducible exact mm0 | refine mmS ?_))) (Asks.cons (holds_of_mem (by repeat (first | with_reducible exact mm0 | refine mmS ?_))) (Asks.cons (holds_of_mem (by repeat (first | with_reducible exact mm0 | refine mmS ?_))) Asks.nil)))) (fcmpq_con (FIn.of (o := errO L (l.getD i dI).q m) (hqx.mono (by decide))) (FIn.of (o := o) (hqo.mono (by decide)))) rfl ca32 ⟨rfl, rfl, rfl⟩ ?_
                      rintro _ _ ⟨rfl, rfl⟩
                      refine JL_guard_yes rfl rfl ?_
                      refine JL_lss rfl rfl ?_
                      refine JL_split (fun h86 => ?_) (fun h86 => ?_)
                      · refine JL_guard_yes rfl rfl ?_
                        refine JL_pick_t rfl rfl ?_
                        refine JL_pick_f rfl rfl ?_
                        refine JL_done_up 94 [box _ _ [_, _, _], box _ _ [_, _, _], box _ _ [_, _, _]] [_, _, _, _, _, _, _, _, _, _, _] rfl rfl (by simp only [nrmF]; rfl) rfl rfl ?_
                        refine JC_true rfl ?_
                        refine JC_drawT mixed 5 [spV 89 [] _, spV 90 [] _, spV 91 [] _, spV 12 [0] _, spV 13 [1] _] ⟨OblS_V (fun vals ex ψ => (by
                            refine JL_normQ ⟨94, [(89, _), (90, _), (91, _), (12, _), (13, _)], _⟩ (_ :: _ :: _ :: _ :: _ :: _ :: _ :: _ :: _ :: _ :: _ :: ψ) rfl rfl ?_
                            refine JL_move rfl ?_
                            exact JL_nil (JE_stepV rfl ss0))), OblS_V (fun vals ex ψ => (by
                            refine JL_normQ ⟨94, [(89, _), (90, _), (91, _), (12, _), (13, _)], _⟩ (_ :: _ :: _ :: _ :: _ :: _ :: _ :: _ :: _ :: _ :: _ :: ψ) rfl rfl ?_
                            refine JL_move rfl ?_
                            exact JL_nil (JE_stepV rfl ss0))), OblS_V (fun vals ex ψ => (by
                            refine JL_normQ ⟨94, [(89, _), (90, _), (91, _), (12, _), (13, _)], _⟩ (_ :: _ :: _ :: _ :: _ :: _ :: _ :: _ :: _ :: _ :: _ :: ψ) rfl rfl ?_
                            refine JL_loadA (vs := [_, _, _]) 2 ty26 rfl rfl ⟨rfl, rfl, rfl, trivial⟩ ?_
                            exact JL_nil (JE_stepV rfl ss0))), OblS_V (fun vals ex ψ => (by
                            refine JL_normQ ⟨94, [(89, _), (90, _), (91, _), (12, _), (13, _)], _⟩ (_ :: _ :: _ :: _ :: _ :: _ :: _ :: _ :: _ :: _ :: _ :: ψ) rfl rfl ?_
                            refine JL_assign rfl ?_
                            exact JL_nil (JE_stepV rfl ss0))), OblS_V (fun vals ex ψ => (by
                            refine JL_normQ ⟨94, [(89, _), (90, _), (91, _), (12, _), (13, _)], _⟩ (_ :: _ :: _ :: _ :: _ :: _ :: _ :: _ :: _ :: _ :: _ :: ψ) rfl rfl ?_
                            refine JL_assign rfl ?_
                            exact JL_nil (JE_stepV rfl ss0))), trivial⟩ (by kernel_rfl) (fun vals bs => ?_)
                        refine JL_normL [_] ⟨94, [(89, _), (90, _), (91, _), (12, _), (13, _)], _⟩ [box _ _ [_, _, _], box _ _ [_, _, _], box _ _ [_, _, _]] [_, _, _, _, _, _, _, _, _, _, _] rfl rfl rfl rfl ?_
                        refine JL_store (vs := [_, _, _]) 0 ty26 rfl rfl rfl (AllOne.cons rfl (AllOne.cons rfl (AllOne.cons rfl AllOne.nil))) rfl (Nat.le_of_ble_eq_true rfl) ?_
                        refine JL_nil_up 94 [box _ _ [_, _, _], box _ _ [_, _, _], box _ _ [_, _, _]] [_, _, _, _, _, _, _, _, _, _, _] rfl rfl (by simp only [nrmF]; rfl) rfl rfl ?_
                        refine JE_block_normal ?_
                        refine JE_then ?_
                        refine JC_region ?_
                        refine JL_add_to rfl rfl (IntWalk.i64_in _ (by omega)) ?_
                        refine JL_move rfl ?_
                        refine JL_nil_up 94 [box _ _ [_, _, _], box _ _ [_, _, _], box _ _ [_, _, _]] [_, _, _, _, _, _, _, _, _, _, _] rfl rfl (by simp only [nrmF]; rfl) rfl rfl ?_
                        refine JE_dropAt 2 ?_
                        refine JE_norm _ [box _ _ [_, _, _], box _ _ [_, _, _]] [_, _, _, _, _, _, _, _, _, _, _] rfl rfl rfl ?_
                        refine JE_dropAt 1 ?_
                        refine JE_norm _ [box _ _ [_, _, _]] [_, _, _, _, _, _, _, _, _, _, _] rfl rfl rfl ?_
                        refine JE_nextS (i + 1, i, scoK L (l.getD i dI).q tol m, errO L (l.getD i dI).q m, ad72, cp72, be72, ce72) (by kernel_rfl) ?_ ?_ (by kernel_rfl) ?_
                        · exact ⟨by omega, bst_up hB (.inr ⟨h81, cmpQ_neg.1 h86⟩)⟩
                        · first | omega | (dsimp only; omega)
                        · exact subset_app (subset_cons (by repeat (first | with_reducible exact mm0 | refine mmS ?_)) (subset_cons (by repeat (first | with_reducible exact mm0 | refine mmS ?_)) subset_nil)) (ssS (ssS (ssS (ssS (ssS (ssS ss0))))))
                      · refine JL_guard_yes rfl rfl ?_
                        refine JL_pick_t rfl rfl ?_
                        refine JL_pick_f rfl rfl ?_
                        refine JL_done_up 94 [box _ _ [_, _, _], box _ _ [_, _, _], box _ _ [_, _, _]] [_, _, _, _, _, _, _, _, _, _, _] rfl rfl (by simp only [nrmF]; rfl) rfl rfl ?_
                        refine JC_false rfl ?_
                        refine JC_skip ?_
                        refine JE_block_normal ?_
                        refine JE_then ?_
                        refine JC_region ?_
                        refine JL_add_to rfl rfl (IntWalk.i64_in _ (by omega)) ?_
                        refine JL_move rfl ?_
                        refine JL_nil_up 94 [box _ _ [_, _, _], box _ _ [_, _, _], box _ _ [_, _, _]] [_, _, _, _, _, _, _, _, _, _, _] rfl rfl (by simp only [nrmF]; rfl) rfl rfl ?_
                        refine JE_dropAt 2 ?_
                        refine JE_norm _ [box _ _ [_, _, _], box _ _ [_, _, _]] [_, _, _, _, _, _, _, _, _, _, _] rfl rfl rfl ?_
                        refine JE_dropAt 1 ?_
                        refine JE_norm _ [box _ _ [_, _, _]] [_, _, _, _, _, _, _, _, _, _, _] rfl rfl rfl ?_
                        refine JE_nextS (i + 1, k, s, o, ad, c, be, e) (by kernel_rfl) ?_ ?_ (by kernel_rfl) ?_
                        · exact ⟨by omega, bst_no hB (fun e => e.elim h77 (fun e => h86 (cmpQ_neg.2 e.2)))⟩
                        · first | omega | (dsimp only; omega)
                        · exact subset_app (subset_cons (by repeat (first | with_reducible exact mm0 | refine mmS ?_)) (subset_cons (by repeat (first | with_reducible exact mm0 | refine mmS ?_)) subset_nil)) (ssS (ssS (ssS (ssS (ssS (ssS ss0))))))
                    · refine JL_guard_yes rfl rfl ?_
                      refine JL_move rfl ?_
                      refine JL_guard_no rfl rfl ?_
                      refine JL_guard_no rfl rfl ?_
                      refine JL_guard_no rfl rfl ?_
                      refine JL_guard_no rfl rfl ?_
                      refine JL_guard_yes rfl rfl ?_
                      refine JL_pick_f rfl rfl ?_
                      refine JL_pick_f rfl rfl ?_
                      refine JL_done_up 94 [box _ _ [_, _, _], box _ _ [_, _, _], box _ _ [_, _, _]] [_, _, _, _, _, _, _, _, _, _, _] rfl rfl (by simp only [nrmF]; rfl) rfl rfl ?_
                      refine JC_false rfl ?_
                      refine JC_skip ?_
                      refine JE_block_normal ?_
                      refine JE_then ?_
                      refine JC_region ?_
                      refine JL_add_to rfl rfl (IntWalk.i64_in _ (by omega)) ?_
                      refine JL_move rfl ?_
                      refine JL_nil_up 94 [box _ _ [_, _, _], box _ _ [_, _, _], box _ _ [_, _, _]] [_, _, _, _, _, _, _, _, _, _, _] rfl rfl (by simp only [nrmF]; rfl) rfl rfl ?_
                      refine JE_dropAt 2 ?_
                      refine JE_norm _ [box _ _ [_, _, _], box _ _ [_, _, _]] [_, _, _, _, _, _, _, _, _, _, _] rfl rfl rfl ?_
                      refine JE_dropAt 1 ?_
                      refine JE_norm _ [box _ _ [_, _, _]] [_, _, _, _, _, _, _, _, _, _, _] rfl rfl rfl ?_
                      refine JE_nextS (i + 1, k, s, o, ad, c, be, e) (by kernel_rfl) ?_ ?_ (by kernel_rfl) ?_
                      · exact ⟨by omega, bst_no hB (fun e => e.elim h77 (fun e => h81 e.1))⟩
                      · first | omega | (dsimp only; omega)
                      · exact subset_app (subset_cons (by repeat (first | with_reducible exact mm0 | refine mmS ?_)) (subset_cons (by repeat (first | with_reducible exact mm0 | refine mmS ?_)) subset_nil)) (ssS (ssS (ssS (ssS (ssS (ssS ss0))))))
                · refine JL_done_up 94 [box _ _ [_, _, _]] [_, _, _, _, _, _, _] rfl rfl (by simp only [nrmF]; rfl) rfl rfl ?_
                  refine JC_seq ?_
                  refine JC_false rfl ?_
                  refine JC_exit ?_
                  refine JE_then_exit ?_
                  refine JE_nextS_exit ?_
                  refine JE_block_exit ?_
                  refine JE_then ?_
                  refine JC_seq ?_
                  refine JC_region ?_
                  refine JL_move rfl ?_
                  refine JL_assign rfl ?_
                  refine JL_assign rfl ?_
                  refine JL_done_up 94 [box _ _ [_, _, _]] [_, _, _, _, _, _, _] rfl rfl (by simp only [nrmF]; rfl) rfl rfl ?_
                  refine JC_ret ?_
                  have he : bestE L l tol m = 0 := bestE_0 (by omega) (fun e => e.elim h33 (ne_true_of_eq_false h37)) h43 (by omega)
                  have hie : i = l.length := by omega
                  subst hie
                  refine JE_ret (vs := [_, _]) [] Tryz.results21 ⟨rfl, rfl, rfl⟩ ?_ ?_
                  · rw [bestK_ok he, he, hB]; exact ⟨rfl, rfl⟩
                  · exact all_nil

end Go.Fw.K
