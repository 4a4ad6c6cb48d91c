/- Walks through functions of the given program: each meets its contract. (Printed by a program of this repo.) -/
import Derived.Test.YtjolkfkekeolcaaGreatDoorS14
import Derived.Test.YtjolkfkekeolcaaGreatDoorProg
namespace Go.Fw.S16
open Go Go.RowKit Go.Proofs Go.Nat9 Go.Fw
attribute [local irreducible] JC JL JE
theorem ca15 : callable Tryz.prog 15 = true := by kernel_rfl
theorem ca17 : callable Tryz.prog 17 = true := by kernel_rfl
theorem ca35 : callable Tryz.prog 35 = true := by kernel_rfl
theorem ca36 : callable Tryz.prog 36 = true := by kernel_rfl
theorem ca40 : callable Tryz.prog 40 = true := by kernel_rfl
theorem ca46 : callable Tryz.prog 46 = true := by kernel_rfl
theorem mixed : Tryz.prog.follows .mixedOrders = true := by kernel_rfl
theorem sl37 : slOf Tryz.prog 37 = some (3, 1, 8, [.int .i64 0]) := by kernel_rfl
theorem sl48 : slOf Tryz.prog 48 = some (26, 3, 56, [.bool false, .slice none 0 0, .slice none 0 0]) := by kernel_rfl
theorem ty26 : tyOf Tryz.prog 26 = some (true, 3) := by kernel_rfl
theorem z26 : zeroOf Tryz.prog 26 = some [.bool false, .slice none 0 0, .slice none 0 0] := by kernel_rfl
end Go.Fw.S16
namespace Go.Fw.K
open Go Go.RowKit Go.Proofs Go.Nat9 Go.Fw Go.Fw.S16
attribute [local irreducible] JC JL JE

set_option maxHeartbeats 1000000 in
set_option maxRecDepth 20000 in
theorem rbest_con {tol m : Int} {ad : Option Addr} {c : Nat} {L : List Int} {ad3 : Option Addr} {c3 : Nat} {l : List Fi} (hl : ∀ x ∈ l, x.ok 4) (hn3 : l.length ≤ 1000000) :
    ConF Tryz.prog 22 [.slice ad L.length c, .slice ad3 l.length c3, .int .i64 tol, .int .i64 m] [vCells ad (i64s L), vCells ad3 (rcells l), vFis l]
      (fun v φo => v = .tuple #[.int .i64 (bestK L l tol m), .int .i64 (bestE L l tol m)] ∧ φo = []) := by
  refine ConF_of Tryz.func22 rfl 123 _ rfl rfl ?_
  intro w0
  refine JC_norm ⟨123, [], [_, _, _, _, _, _, _, _, _, _, _, _, _, _, _, _, _, _, _, _, _, _, _, _, _, _, _, _, _, _, _, _, _, _, _, _, _, _, _, _, _, _, _, _, _, _, _, _, _, _, _, _, _, _, _, _, _, _, _, _, _, _, _, _, _, _, _, _, _, _, _, _, _, _, _, _, _, _, _, _, _, _, _, _, _, _, _, _, _, _, _, _, _, _, _, _, _, _, _, _, _, _, _, _, _, _, _, _, _, _, _, _, _, _, _, _, _, _, _, _, _, _, _]⟩ [] [_, _, _] rfl rfl rfl ?_
  refine JC_seq ?_
  refine JC_region ?_
  refine JL_assign rfl ?_
  refine JL_assign rfl ?_
  refine JL_done_up 123 [] [_, _, _] rfl rfl (by simp only [nrmF]; rfl) rfl rfl ?_
  refine JC_seq ?_
  refine JC_seq ?_
  refine JC_region ?_
  refine JL_move rfl ?_
  refine JL_len sl37 rfl ?_
  refine JL_gtr rfl rfl ?_
  refine JL_split (fun h24 => ?_) (fun h24 => ?_)
  · refine JL_move rfl ?_
    refine JL_guard_no rfl rfl ?_
    refine JL_guard_no rfl rfl ?_
    refine JL_guard_no rfl rfl ?_
    refine JL_pick_t rfl rfl ?_
    refine JL_done_up 123 [] [_, _, _] rfl rfl (by simp only [nrmF]; rfl) rfl rfl ?_
    refine JC_true rfl ?_
    refine JC_seq ?_
    refine JC_region ?_
    refine JL_assign rfl ?_
    refine JL_assign rfl ?_
    refine JL_done_up 123 [] [_, _, _] rfl rfl (by simp only [nrmF]; rfl) rfl rfl ?_
    refine JC_ret ?_
    refine JE_then_ret ?_
    have he : bestE L l tol m = 6 := bestE_6 (by first | exact .inl (chkE_long (by omega)) | exact .inr (by omega))
    refine JE_ret (vs := [_, _]) [] Tryz.results22 ⟨rfl, rfl, rfl⟩ ?_ ?_
    · rw [bestK_no (by rw [he]; first | assumption | decide), he]; exact ⟨rfl, rfl⟩
    · exact all_nil
  · refine JL_move rfl ?_
    refine JL_guard_yes rfl rfl ?_
    refine JL_move rfl ?_
    refine JL_guard_yes rfl rfl ?_
    refine JL_len sl48 rfl ?_
    refine JL_guard_yes rfl rfl ?_
    refine JL_gtr rfl rfl ?_
    refine JL_split (fun h28 => ?_) (fun h28 => ?_)
    · refine JL_pick_f rfl rfl ?_
      refine JL_done_up 123 [] [_, _, _] rfl rfl (by simp only [nrmF]; rfl) rfl rfl ?_
      refine JC_true rfl ?_
      refine JC_seq ?_
      refine JC_region ?_
      refine JL_assign rfl ?_
      refine JL_assign rfl ?_
      refine JL_done_up 123 [] [_, _, _] rfl rfl (by simp only [nrmF]; rfl) rfl rfl ?_
      refine JC_ret ?_
      refine JE_then_ret ?_
      have he : bestE L l tol m = 6 := bestE_6 (by first | exact .inl (chkE_long (by omega)) | exact .inr (by omega))
      refine JE_ret (vs := [_, _]) [] Tryz.results22 ⟨rfl, rfl, rfl⟩ ?_ ?_
      · rw [bestK_no (by rw [he]; first | assumption | decide), he]; exact ⟨rfl, rfl⟩
      · exact all_nil
    · refine JL_pick_f rfl rfl ?_
      refine JL_done_up 123 [] [_, _, _] rfl rfl (by simp only [nrmF]; rfl) rfl rfl ?_
      refine JC_false rfl ?_
      refine JC_skip ?_
      refine JE_then ?_
      refine JC_seq ?_
      refine JC_seq ?_
      refine JC_region ?_
      refine JL_move rfl ?_
      refine JL_callF' (Asks.cons (holds_of_mem (by repeat (first | with_reducible exact mm0 | refine mmS ?_))) Asks.nil) (rcheck_con) rfl ca46 ⟨rfl, rfl⟩ ?_
      rintro _ _ ⟨rfl, rfl⟩
      refine JL_assign rfl ?_
      refine JL_done_up 123 [] [_, _, _] rfl rfl (by simp only [nrmF]; rfl) rfl rfl ?_
      refine JC_seq ?_
      refine JC_region ?_
      refine JL_move rfl ?_
      refine JL_neq rfl rfl ?_
      refine JL_split (fun h33 => ?_) (fun h33 => ?_)
      · refine JL_done_up 123 [] [_, _, _] rfl rfl (by simp only [nrmF]; rfl) rfl rfl ?_
        refine JC_true rfl ?_
        refine JC_seq ?_
        refine JC_region ?_
        refine JL_move rfl ?_
        refine JL_assign rfl ?_
        refine JL_assign rfl ?_
        refine JL_done_up 123 [] [_, _, _] rfl rfl (by simp only [nrmF]; rfl) rfl rfl ?_
        refine JC_ret ?_
        refine JE_then_ret ?_
        have hc1 := chkE_one (L := L) (by omega) h33
        have he : bestE L l tol m = chkE L := (bestE_1 (fun e => e.elim (fun e => by rw [hc1] at e; cases e) (by omega)) (.inl h33)).trans hc1.symm
        refine JE_ret (vs := [_, _]) [] Tryz.results22 ⟨rfl, rfl, rfl⟩ ?_ ?_
        · rw [bestK_no (by rw [he]; exact h33), he]; exact ⟨rfl, rfl⟩
        · exact all_nil
      · refine JL_done_up 123 [] [_, _, _] rfl rfl (by simp only [nrmF]; rfl) rfl rfl ?_
        refine JC_false rfl ?_
        refine JC_skip ?_
        refine JE_then ?_
        refine JC_seq ?_
        refine JC_seq ?_
        refine JC_region ?_
        refine JL_assign rfl ?_
        refine JL_done_up 123 [] [_, _, _] rfl rfl (by simp only [nrmF]; rfl) rfl rfl ?_
        refine JC_block ?_
        refine JC_loopS ((Nat)) (fun (k : Nat) => k ≤ l.length ∧ ∀ j, j < k → 0 < (l.getD j dI).q) (fun (k : Nat) => l.length - k) (fun u (k : Nat) => [none, none, none, none, none, none, none, none, some (u 8), some (u 9), none, some (.int .i64 (k : Nat)), none, none, none, none, none, none, none, none, none, none, none, none, none, none, none, none, none, none, none, none, none, none, none, some (u 35), some (u 36), some (u 37), some (u 38), some (u 39), some (u 40), some (u 41), some (u 42), some (u 43), some (u 44), some (u 45), some (u 46), none, none, none, none, none, none, none, none, none, none, none, none, none, none, none, none, none, none, none, none, none, none, none, none, none, none, none, none, none, none, none, none, none, none, none, none, none, none, none, none, none, none, none, none, none, none, none, none, none, none, none, none, none, none, none, none, none, none, none, none, none, none, none, none, none, none, none, none, none, none, none, none, none, none, none, none]) (fun (k : Nat) => []) (fun (k : Nat) => []) (0) (by kernel_rfl) ?_ (by kernel_rfl) ?_ ?_
        · exact ⟨Nat.zero_le _, fun j hj => absurd hj (Nat.not_lt_zero _)⟩
        · exact subset_nil
        intro u k hC
        obtain ⟨hk, hpos⟩ := hC
        refine JC_norm ⟨123, [], [_, _, _, _, _, _, _, _, _, _, _, _, _, _, _, _, _, _, _, _, _, _, _, _, _, _, _, _, _, _, _, _, _, _, _, _, _, _, _, _, _, _, _, _, _, _, _, _, _, _, _, _, _, _, _, _, _, _, _, _, _, _, _, _, _, _, _, _, _, _, _, _, _, _, _, _, _, _, _, _, _, _, _, _, _, _, _, _, _, _, _, _, _, _, _, _, _, _, _, _, _, _, _, _, _, _, _, _, _, _, _, _, _, _, _, _, _, _, _, _, _, _, _]⟩ [] [_, _, _] rfl rfl rfl ?_
        refine JC_seq ?_
        refine JC_seq ?_
        refine JC_region ?_
        refine JL_move rfl ?_
        refine JL_move rfl ?_
        refine JL_len sl48 rfl ?_
        refine JL_lss rfl rfl ?_
        refine JL_split (fun h38 => ?_) (fun h38 => ?_)
        · refine JL_done_up 123 [] [_, _, _] rfl rfl (by simp only [nrmF]; rfl) rfl rfl ?_
          refine JC_true rfl ?_
          refine JC_skip ?_
          refine JE_then ?_
          refine JC_seq ?_
          refine JC_block ?_
          refine JC_seq ?_
          have hxk := hl _ (fi_mem (l := l) (j := k) (by omega))
          refine JC_fisGet (f := false) (l := l) (l.getD k dI) (by repeat (first | with_reducible exact mm0 | refine mmS ?_)) (fi_mem (by omega)) ?_
          refine JC_region ?_
          refine JL_move rfl ?_
          refine JL_move rfl ?_
          refine JL_indexAddr k sl48 rfl rfl rfl (by omega) (by first | exact Reads.view (by repeat (first | with_reducible exact mm0 | refine mmS ?_))) (by rw [rcells_length]; omega) ?_
          refine JL_loadEA (vs := [_, _, _]) ty26 (Nat.zero_lt_succ _) rfl (by first | exact Reads.view (by repeat (first | with_reducible exact mm0 | refine mmS ?_))) (rcells_getA (by omega)) ?_
          refine JL_callF' (Asks.cons (holds_of_mem (by repeat (first | with_reducible exact mm0 | refine mmS ?_))) (Asks.cons (holds_of_mem (by repeat (first | with_reducible exact mm0 | refine mmS ?_))) Asks.nil)) (rsign_con (hxk.mono (by decide))) rfl ca35 ⟨rfl, rfl⟩ ?_
          rintro _ _ ⟨rfl, rfl⟩
          refine JL_leq rfl rfl ?_
          refine JL_split (fun h46 => ?_) (fun h46 => ?_)
          · refine JL_done_up 123 [] [_, _, _, _, _] rfl rfl (by simp only [nrmF]; rfl) rfl rfl ?_
            refine JC_true rfl ?_
            refine JC_seq ?_
            refine JC_region ?_
            refine JL_assign rfl ?_
            refine JL_assign rfl ?_
            refine JL_done_up 123 [] [_, _, _, _, _] rfl rfl (by simp only [nrmF]; rfl) rfl rfl ?_
            refine JC_ret ?_
            refine JE_block_ret ?_
            refine JE_then_ret ?_
            refine JE_nextS_ret ?_
            refine JE_block_ret ?_
            refine JE_then_ret ?_
            have he : bestE L l tol m = 1 := bestE_1 (fun e => e.elim (fun e => by rw [Classical.byContradiction h33] at e; cases e) (by omega)) (.inr (unitsBad_hit (k := k) (by omega) (fun e => absurd (sgn_pos.2 e) (by omega))))
            refine JE_ret (vs := [_, _]) [] Tryz.results22 ⟨rfl, rfl, rfl⟩ ?_ ?_
            · rw [bestK_no (by rw [he]; first | assumption | decide), he]; exact ⟨rfl, rfl⟩
            · exact all_nil
          · refine JL_done_up 123 [] [_, _, _, _, _] rfl rfl (by simp only [nrmF]; rfl) rfl rfl ?_
            refine JC_false rfl ?_
            refine JC_skip ?_
            refine JE_block_normal ?_
            refine JE_then ?_
            refine JC_region ?_
            refine JL_move rfl ?_
            refine JL_add_to rfl rfl (IntWalk.i64_in _ (by omega)) ?_
            refine JL_assign rfl ?_
            refine JL_nil_up 123 [] [_, _, _, _, _] rfl rfl (by simp only [nrmF]; rfl) rfl rfl ?_
            refine JE_nextS (k + 1) (by kernel_rfl) ?_ ?_ (by kernel_rfl) ?_
            · exact ⟨by omega, fun j hj => by
              by_cases h : j = k
              · subst h; exact sgn_pos.1 (by omega)
              · exact hpos j (by omega)⟩
            · first | omega | (dsimp only; omega)
            · exact subset_app subset_nil (ssS (ssS ss0))
        · refine JL_done_up 123 [] [_, _, _] rfl rfl (by simp only [nrmF]; rfl) rfl rfl ?_
          refine JC_false rfl ?_
          refine JC_exit ?_
          refine JE_then_exit ?_
          refine JE_nextS_exit ?_
          refine JE_block_exit ?_
          refine JE_then ?_
          refine JC_seq ?_
          refine JC_seq ?_
          refine JC_region ?_
          refine JL_move rfl ?_
          refine JL_move rfl ?_
          refine JL_callF' Asks.nil (rlim_con) rfl ca36 ⟨rfl, rfl, rfl⟩ ?_
          rintro _ _ ⟨rfl, rfl⟩
          refine JL_split (fun h49 => ?_) (fun h49 => ?_)
          · refine JL_not rfl ?_
            rw [Bool.not_true]
            refine JL_done_up 123 [] [_, _, _] rfl rfl (by simp only [nrmF]; rfl) rfl rfl ?_
            refine JC_false rfl ?_
            refine JC_skip ?_
            refine JE_then ?_
            refine JC_seq ?_
            refine JC_seq ?_
            refine JC_region ?_
            refine JL_move rfl ?_
            refine JL_len sl48 rfl ?_
            refine JL_eql rfl rfl ?_
            refine JL_split (fun h53 => ?_) (fun h53 => ?_)
            · refine JL_move rfl ?_
              refine JL_guard_no rfl rfl ?_
              refine JL_guard_no rfl rfl ?_
              refine JL_guard_no rfl rfl ?_
              refine JL_pick_t rfl rfl ?_
              refine JL_done_up 123 [] [_, _, _] rfl rfl (by simp only [nrmF]; rfl) rfl rfl ?_
              refine JC_true rfl ?_
              refine JC_seq ?_
              refine JC_region ?_
              refine JL_assign rfl ?_
              refine JL_assign rfl ?_
              refine JL_done_up 123 [] [_, _, _] rfl rfl (by simp only [nrmF]; rfl) rfl rfl ?_
              refine JC_ret ?_
              refine JE_then_ret ?_
              have he : bestE L l tol m = 7 := bestE_7 (fun e => e.elim (fun e => by rw [Classical.byContradiction h33] at e; cases e) (by omega)) (fun e => e.elim h33 (unitsBad_miss (fun j hj => hpos j (by omega)))) (fun e => e (limE_ok h49)) (by omega)
              refine JE_ret (vs := [_, _]) [] Tryz.results22 ⟨rfl, rfl, rfl⟩ ?_ ?_
              · rw [bestK_no (by rw [he]; first | assumption | decide), he]; exact ⟨rfl, rfl⟩
              · exact all_nil
            · refine JL_move rfl ?_
              refine JL_guard_yes rfl rfl ?_
              refine JL_move rfl ?_
              refine JL_guard_yes rfl rfl ?_
              refine JL_len sl37 rfl ?_
              refine JL_guard_yes rfl rfl ?_
              refine JL_eql rfl rfl ?_
              refine JL_split (fun h57 => ?_) (fun h57 => ?_)
              · refine JL_pick_f rfl rfl ?_
                refine JL_done_up 123 [] [_, _, _] rfl rfl (by simp only [nrmF]; rfl) rfl rfl ?_
                refine JC_true rfl ?_
                refine JC_seq ?_
                refine JC_region ?_
                refine JL_assign rfl ?_
                refine JL_assign rfl ?_
                refine JL_done_up 123 [] [_, _, _] rfl rfl (by simp only [nrmF]; rfl) rfl rfl ?_
                refine JC_ret ?_
                refine JE_then_ret ?_
                have he : bestE L l tol m = 7 := bestE_7 (fun e => e.elim (fun e => by rw [Classical.byContradiction h33] at e; cases e) (by omega)) (fun e => e.elim h33 (unitsBad_miss (fun j hj => hpos j (by omega)))) (fun e => e (limE_ok h49)) (by omega)
                refine JE_ret (vs := [_, _]) [] Tryz.results22 ⟨rfl, rfl, rfl⟩ ?_ ?_
                · rw [bestK_no (by rw [he]; first | assumption | decide), he]; exact ⟨rfl, rfl⟩
                · exact all_nil
              · refine JL_pick_f rfl rfl ?_
                refine JL_done_up 123 [] [_, _, _] rfl rfl (by simp only [nrmF]; rfl) rfl rfl ?_
                refine JC_false rfl ?_
                refine JC_skip ?_
                refine JE_then ?_
                refine JC_seq ?_
                refine JC_region ?_
                refine JL_assign rfl ?_
                refine JL_done_up 123 [] [_, _, _] rfl rfl (by simp only [nrmF]; rfl) rfl rfl ?_
                refine JC_seq ?_
                have hx0 := hl _ (fi_mem (l := l) (j := 0) (by omega))
                refine JC_fisGet (f := false) (l := l) (l.getD 0 dI) (by repeat (first | with_reducible exact mm0 | refine mmS ?_)) (fi_mem (by omega)) ?_
                refine JC_region ?_
                refine JL_move rfl ?_
                refine JL_move rfl ?_
                refine JL_indexAddr 0 sl48 rfl rfl rfl (by omega) (by first | exact Reads.view (by repeat (first | with_reducible exact mm0 | refine mmS ?_))) (by rw [rcells_length]; omega) ?_
                refine JL_loadEA (vs := [_, _, _]) ty26 (Nat.zero_lt_succ _) rfl (by first | exact Reads.view (by repeat (first | with_reducible exact mm0 | refine mmS ?_))) (rcells_getA (by omega)) ?_
                refine JL_move rfl ?_
                refine JL_move rfl ?_
                refine JL_callF' (Asks.cons (holds_of_mem (by repeat (first | with_reducible exact mm0 | refine mmS ?_))) (Asks.cons (holds_of_mem (by repeat (first | with_reducible exact mm0 | refine mmS ?_))) (Asks.cons (holds_of_mem (by repeat (first | with_reducible exact mm0 | refine mmS ?_))) Asks.nil))) (rscore_con (tol := tol) (m := m) (hx0.mono (by decide))) rfl ca17 ⟨rfl, rfl, rfl, rfl, rfl⟩ ?_
                rintro _ _ ⟨rfl, rfl⟩
                refine JL_move rfl ?_
                refine JL_extract rfl rfl ?_
                refine JL_extract rfl rfl ?_
                refine JL_assign rfl ?_
                refine JL_assign rfl ?_
                refine JL_done_up 123 [] [_, _, _, _, _] rfl rfl (by simp only [nrmF]; rfl) rfl rfl ?_
                refine JC_seq ?_
                refine JC_region ?_
                refine JL_move rfl ?_
                refine JL_move rfl ?_
                refine JL_indexAddr 0 sl48 rfl rfl rfl (by omega) (by first | exact Reads.view (by repeat (first | with_reducible exact mm0 | refine mmS ?_))) (by rw [rcells_length]; omega) ?_
                refine JL_loadEA (vs := [_, _, _]) ty26 (Nat.zero_lt_succ _) rfl (by first | exact Reads.view (by repeat (first | with_reducible exact mm0 | refine mmS ?_))) (rcells_getA (by omega)) ?_
                refine JL_move rfl ?_
                refine JL_callF' (Asks.cons (holds_of_mem (by repeat (first | with_reducible exact mm0 | refine mmS ?_))) (Asks.cons (holds_of_mem (by repeat (first | with_reducible exact mm0 | refine mmS ?_))) (Asks.cons (holds_of_mem (by repeat (first | with_reducible exact mm0 | refine mmS ?_))) Asks.nil))) (rerror_con (m := m) hx0) rfl ca15 ⟨rfl, rfl, rfl, rfl⟩ ?_
                rintro _ _ ⟨ad75, cp75, be75, ce75, rfl, rfl⟩
                refine JL_move rfl ?_
                refine JL_extract rfl rfl ?_
                refine JL_extract rfl rfl ?_
                refine JL_alloc z26 (fun b15 => ?_)
                refine JL_store (vs := [_, _, _]) 0 ty26 rfl rfl rfl (AllOne.cons rfl (AllOne.cons rfl (AllOne.cons rfl AllOne.nil))) rfl (Nat.le_of_ble_eq_true rfl) ?_
                refine JL_assign rfl ?_
                refine JL_done_up 123 [box _ _ [_, _, _]] [_, _, _, _, _, _, _] rfl rfl (by simp only [nrmF]; rfl) rfl rfl ?_
                refine JC_seq ?_
                refine JC_seq ?_
                refine JC_region ?_
                refine JL_assign rfl ?_
                refine JL_done_up 123 [box _ _ [_, _, _]] [_, _, _, _, _, _, _] rfl rfl (by simp only [nrmF]; rfl) rfl rfl ?_
                refine JC_block ?_
                refine JC_loopS ((Nat) × (Nat) × (Int) × (Option Rat) × (Option Addr) × (Nat) × (Option Addr) × (Nat)) (fun (i, k, s, o, ad, c, be, e) => 1 ≤ i ∧ i ≤ l.length ∧ bst L l tol m i = (k, s, o)) (fun (i, k, s, o, ad, c, be, e) => l.length - i) (fun u (i, k, s, o, ad, c, be, e) => [none, none, none, none, none, none, none, none, none, none, none, none, some (.int .i64 (k : Nat)), some (.int .i64 s), none, none, none, some (.int .i64 (i : Nat)), some (u 18), some (u 19), some (u 20), some (u 21), none, none, none, none, none, none, none, none, none, none, none, none, none, none, none, none, none, none, none, none, none, none, none, none, none, none, none, none, none, none, none, none, none, none, none, none, none, none, none, none, none, none, none, none, none, none, none, none, none, none, none, none, none, none, none, none, some (u 78), some (u 79), some (u 80), some (u 81), some (u 82), some (u 83), some (u 84), some (u 85), some (u 86), some (u 87), some (u 88), some (u 89), some (u 90), some (u 91), some (u 92), some (u 93), some (u 94), some (u 95), some (u 96), some (u 97), some (u 98), some (u 99), some (u 100), some (u 101), some (u 102), some (u 103), some (u 104), some (u 105), some (u 106), some (u 107), some (u 108), some (u 109), some (u 110), some (u 111), some (u 112), some (u 113), some (u 114), some (u 115), some (u 116), some (u 117), some (u 118), some (u 119), some (u 120), some (u 121), none]) (fun (i, k, s, o, ad, c, be, e) => [some (box b15 26 [.bool (fneg (o)), .slice ad (fnum (o)).length c, .slice be (fden (o)).length e])]) (fun (i, k, s, o, ad, c, be, e) => [(true, vCells ad (u32s (fnum (o)))), (true, vCells be (u32s (fden (o))))]) (1, 0, scoK L (l.getD 0 dI).q tol m, errO L (l.getD 0 dI).q m, ad75, cp75, be75, ce75) (by kernel_rfl) ?_ (by kernel_rfl) ?_ ?_
                · exact ⟨by omega, by omega, bst_one⟩
                · exact (subset_cons (by repeat (first | with_reducible exact mm0 | refine mmS ?_)) (subset_cons (by repeat (first | with_reducible exact mm0 | refine mmS ?_)) subset_nil))
                intro u i hC
                obtain ⟨i, k, s, o, ad, c, be, e⟩ := i
                obtain ⟨hi1, hi, hB⟩ := hC
                refine JC_norm ⟨123, [], [_, _, _, _, _, _, _, _, _, _, _, _, _, _, _, _, _, _, _, _, _, _, _, _, _, _, _, _, _, _, _, _, _, _, _, _, _, _, _, _, _, _, _, _, _, _, _, _, _, _, _, _, _, _, _, _, _, _, _, _, _, _, _, _, _, _, _, _, _, _, _, _, _, _, _, _, _, _, _, _, _, _, _, _, _, _, _, _, _, _, _, _, _, _, _, _, _, _, _, _, _, _, _, _, _, _, _, _, _, _, _, _, _, _, _, _, _, _, _, _, _, _, _]⟩ [box _ _ [_, _, _]] [_, _, _, _, _, _, _, _, _] rfl rfl rfl ?_
                refine JC_seq ?_
                refine JC_seq ?_
                refine JC_region ?_
                refine JL_move rfl ?_
                refine JL_move rfl ?_
                refine JL_len sl48 rfl ?_
                refine JL_lss rfl rfl ?_
                refine JL_split (fun h81 => ?_) (fun h81 => ?_)
                · refine JL_done_up 123 [box _ _ [_, _, _]] [_, _, _, _, _, _, _, _, _] rfl rfl (by simp only [nrmF]; rfl) rfl rfl ?_
                  refine JC_true rfl ?_
                  refine JC_skip ?_
                  refine JE_then ?_
                  refine JC_seq ?_
                  refine JC_block ?_
                  refine JC_seq ?_
                  have hxi := hl _ (fi_mem (l := l) (j := i) (by omega))
                  have hqx : qs (fval (errO L (l.getD i dI).q m)) 12 := qs_errO (FIn.qs hxi)
                  have hqo : qs (fval o) 12 := by have e := qs_bst (L := L) (tol := tol) (m := m) hl hi; rw [hB] at e; exact e
                  refine JC_fisGet (f := false) (l := l) (l.getD i dI) (by repeat (first | with_reducible exact mm0 | refine mmS ?_)) (fi_mem (by omega)) ?_
                  refine JC_region ?_
                  refine JL_move rfl ?_
                  refine JL_move rfl ?_
                  refine JL_move rfl ?_
                  refine JL_indexAddr i sl48 rfl rfl rfl (by omega) (by first | exact Reads.view (by repeat (first | with_reducible exact mm0 | refine mmS ?_))) (by rw [rcells_length]; omega) ?_
                  refine JL_loadEA (vs := [_, _, _]) ty26 (Nat.zero_lt_succ _) rfl (by first | exact Reads.view (by repeat (first | with_reducible exact mm0 | refine mmS ?_))) (rcells_getA (by omega)) ?_
                  refine JL_move rfl ?_
                  refine JL_move rfl ?_
                  refine JL_callF' (Asks.cons (holds_of_mem (by repeat (first | with_reducible exact mm0 | refine mmS ?_))) (Asks.cons (holds_of_mem (by repeat (first | with_reducible exact mm0 | refine mmS ?_))) (Asks.cons (holds_of_mem (by repeat (first | with_reducible exact mm0 | refine mmS ?_))) Asks.nil))) (rscore_con (tol := tol) (m := m) (hxi.mono (by decide))) rfl ca17 ⟨rfl, rfl, rfl, rfl, rfl⟩ ?_
                  rintro _ _ ⟨rfl, rfl⟩
                  refine JL_move rfl ?_
                  refine JL_extract rfl rfl ?_
                  refine JL_extract rfl rfl ?_
                  refine JL_assign rfl ?_
                  refine JL_assign rfl ?_
                  refine JL_done_up 123 [box _ _ [_, _, _]] [_, _, _, _, _, _, _, _, _, _, _] rfl rfl (by simp only [nrmF]; rfl) rfl rfl ?_
                  refine JC_seq ?_
                  refine JC_region ?_
                  refine JL_move rfl ?_
                  refine JL_move rfl ?_
                  refine JL_move rfl ?_
                  refine JL_indexAddr i sl48 rfl rfl rfl (by omega) (by first | exact Reads.view (by repeat (first | with_reducible exact mm0 | refine mmS ?_))) (by rw [rcells_length]; omega) ?_
                  refine JL_loadEA (vs := [_, _, _]) ty26 (Nat.zero_lt_succ _) rfl (by first | exact Reads.view (by repeat (first | with_reducible exact mm0 | refine mmS ?_))) (rcells_getA (by omega)) ?_
                  refine JL_move rfl ?_
                  refine JL_callF' (Asks.cons (holds_of_mem (by repeat (first | with_reducible exact mm0 | refine mmS ?_))) (Asks.cons (holds_of_mem (by repeat (first | with_reducible exact mm0 | refine mmS ?_))) (Asks.cons (holds_of_mem (by repeat (first | with_reducible exact mm0 | refine mmS ?_))) Asks.nil))) (rerror_con (m := m) hxi) rfl ca15 ⟨rfl, rfl, rfl, rfl⟩ ?_
                  rintro _ _ ⟨ad102, cp102, be102, ce102, rfl, rfl⟩
                  refine JL_move rfl ?_
                  refine JL_extract rfl rfl ?_
                  refine JL_extract rfl rfl ?_
                  refine JL_alloc z26 (fun b20 => ?_)
                  refine JL_store (vs := [_, _, _]) 1 ty26 rfl rfl rfl (AllOne.cons rfl (AllOne.cons rfl (AllOne.cons rfl AllOne.nil))) rfl (Nat.le_of_ble_eq_true rfl) ?_
                  refine JL_assign rfl ?_
                  refine JL_done_up 123 [box _ _ [_, _, _], box _ _ [_, _, _]] [_, _, _, _, _, _, _, _, _, _, _, _, _] rfl rfl (by simp only [nrmF]; rfl) rfl rfl ?_
                  refine JC_seq ?_
                  refine JC_region ?_
                  refine JL_move rfl ?_
                  refine JL_move rfl ?_
                  refine JL_gtr rfl rfl ?_
                  refine JL_split (fun h107 => ?_) (fun h107 => ?_)
                  · refine JL_move rfl ?_
                    refine JL_guard_no rfl rfl ?_
                    refine JL_guard_no rfl rfl ?_
                    refine JL_guard_no rfl rfl ?_
                    refine JL_guard_no rfl rfl ?_
                    refine JL_guard_un rfl rfl ?_
                    refine JL_guard_un rfl rfl ?_
                    refine JL_guard_un rfl rfl ?_
                    refine JL_guard_un rfl rfl ?_
                    refine JL_guard_no rfl rfl ?_
                    refine JL_pick_t rfl rfl ?_
                    refine JL_done_up 123 [box _ _ [_, _, _], box _ _ [_, _, _]] [_, _, _, _, _, _, _, _, _, _, _, _, _] rfl rfl (by simp only [nrmF]; rfl) rfl rfl ?_
                    refine JC_true rfl ?_
                    refine JC_drawT mixed 5 [spV 119 [] _, spV 120 [] _, spV 121 [] _, spV 12 [0] _, spV 13 [1] _] ⟨OblS_V (fun vals ex ψ => (by
                        refine JL_normQ ⟨123, [(119, _), (120, _), (121, _), (12, _), (13, _)], _⟩ (_ :: _ :: _ :: _ :: _ :: _ :: _ :: _ :: _ :: _ :: _ :: _ :: _ :: ψ) rfl rfl ?_
                        refine JL_move rfl ?_
                        exact JL_nil (JE_stepV rfl ss0))), OblS_V (fun vals ex ψ => (by
                        refine JL_normQ ⟨123, [(119, _), (120, _), (121, _), (12, _), (13, _)], _⟩ (_ :: _ :: _ :: _ :: _ :: _ :: _ :: _ :: _ :: _ :: _ :: _ :: _ :: ψ) rfl rfl ?_
                        refine JL_move rfl ?_
                        exact JL_nil (JE_stepV rfl ss0))), OblS_V (fun vals ex ψ => (by
                        refine JL_normQ ⟨123, [(119, _), (120, _), (121, _), (12, _), (13, _)], _⟩ (_ :: _ :: _ :: _ :: _ :: _ :: _ :: _ :: _ :: _ :: _ :: _ :: _ :: ψ) rfl rfl ?_
                        refine JL_loadA (vs := [_, _, _]) 1 ty26 rfl rfl ⟨rfl, rfl, rfl, trivial⟩ ?_
                        exact JL_nil (JE_stepV rfl ss0))), OblS_V (fun vals ex ψ => (by
                        refine JL_normQ ⟨123, [(119, _), (120, _), (121, _), (12, _), (13, _)], _⟩ (_ :: _ :: _ :: _ :: _ :: _ :: _ :: _ :: _ :: _ :: _ :: _ :: _ :: ψ) rfl rfl ?_
                        refine JL_assign rfl ?_
                        exact JL_nil (JE_stepV rfl ss0))), OblS_V (fun vals ex ψ => (by
                        refine JL_normQ ⟨123, [(119, _), (120, _), (121, _), (12, _), (13, _)], _⟩ (_ :: _ :: _ :: _ :: _ :: _ :: _ :: _ :: _ :: _ :: _ :: _ :: _ :: ψ) rfl rfl ?_
                        refine JL_assign rfl ?_
                        exact JL_nil (JE_stepV rfl ss0))), trivial⟩ (by kernel_rfl) (fun vals bs => ?_)
                    refine JL_normL [_] ⟨123, [(119, _), (120, _), (121, _), (12, _), (13, _)], _⟩ [box _ _ [_, _, _], box _ _ [_, _, _]] [_, _, _, _, _, _, _, _, _, _, _, _, _] rfl rfl rfl rfl ?_
                    refine JL_store (vs := [_, _, _]) 0 ty26 rfl rfl rfl (AllOne.cons rfl (AllOne.cons rfl (AllOne.cons rfl AllOne.nil))) rfl (Nat.le_of_ble_eq_true rfl) ?_
                    refine JL_nil_up 123 [box _ _ [_, _, _], box _ _ [_, _, _]] [_, _, _, _, _, _, _, _, _, _, _, _, _] rfl rfl (by simp only [nrmF]; rfl) rfl rfl ?_
                    refine JE_block_normal ?_
                    refine JE_then ?_
                    refine JC_region ?_
                    refine JL_move rfl ?_
                    refine JL_add_to rfl rfl (IntWalk.i64_in _ (by omega)) ?_
                    refine JL_assign rfl ?_
                    refine JL_nil_up 123 [box _ _ [_, _, _], box _ _ [_, _, _]] [_, _, _, _, _, _, _, _, _, _, _, _, _] rfl rfl (by simp only [nrmF]; rfl) rfl rfl ?_
                    refine JE_dropAt 1 ?_
                    refine JE_norm _ [box _ _ [_, _, _]] [_, _, _, _, _, _, _, _, _, _, _, _, _] rfl rfl rfl ?_
                    refine JE_nextS (i + 1, i, scoK L (l.getD i dI).q tol m, errO L (l.getD i dI).q m, ad102, cp102, be102, ce102) (by kernel_rfl) ?_ ?_ (by kernel_rfl) ?_
                    · exact ⟨by omega, by omega, bst_up hB (.inl h107)⟩
                    · first | omega | (dsimp only; omega)
                    · exact subset_app (subset_cons (by repeat (first | with_reducible exact mm0 | refine mmS ?_)) (subset_cons (by repeat (first | with_reducible exact mm0 | refine mmS ?_)) subset_nil)) (ssS (ssS (ssS (ssS (ssS (ssS ss0))))))
                  · refine JL_move rfl ?_
                    refine JL_guard_yes rfl rfl ?_
                    refine JL_move rfl ?_
                    refine JL_guard_yes rfl rfl ?_
                    refine JL_move rfl ?_
                    refine JL_guard_yes rfl rfl ?_
                    refine JL_eql rfl rfl ?_
                    refine JL_split (fun h111 => ?_) (fun h111 => ?_)
                    · refine JL_guard_yes rfl rfl ?_
                      refine JL_move rfl ?_
                      refine JL_guard_yes rfl rfl ?_
                      refine JL_loadA (vs := [_, _, _]) 1 ty26 rfl rfl ⟨rfl, rfl, rfl, trivial⟩ ?_
                      refine JL_guard_yes rfl rfl ?_
                      refine JL_loadA (vs := [_, _, _]) 0 ty26 rfl rfl ⟨rfl, rfl, rfl, trivial⟩ ?_
                      refine JL_guard_yes rfl rfl ?_
                      refine JL_callF' (Asks.cons (holds_of_mem (by repeat (first | with_reducible exact mm0 | refine mmS ?_))) (Asks.cons (holds_of_mem (by repeat (first | with_reducible exact mm0 | refine mmS ?_))) (Asks.cons (holds_of_mem (by repeat (first | with_reducible exact mm0 | refine mmS ?_))) (Asks.cons (holds_of_mem (by repeat (first | with_reducible exact mm0 | refine mmS ?_))) Asks.nil)))) (rcmpq_con (FIn.of (o := errO L (l.getD i dI).q m) (hqx.mono (by decide))) (FIn.of (o := o) (hqo.mono (by decide)))) rfl ca40 ⟨rfl, rfl, rfl⟩ ?_
                      rintro _ _ ⟨rfl, rfl⟩
                      refine JL_guard_yes rfl rfl ?_
                      refine JL_lss rfl rfl ?_
                      refine JL_split (fun h116 => ?_) (fun h116 => ?_)
                      · refine JL_guard_yes rfl rfl ?_
                        refine JL_pick_t rfl rfl ?_
                        refine JL_pick_f rfl rfl ?_
                        refine JL_done_up 123 [box _ _ [_, _, _], box _ _ [_, _, _]] [_, _, _, _, _, _, _, _, _, _, _, _, _] rfl rfl (by simp only [nrmF]; rfl) rfl rfl ?_
                        refine JC_true rfl ?_
                        refine JC_drawT mixed 5 [spV 119 [] _, spV 120 [] _, spV 121 [] _, spV 12 [0] _, spV 13 [1] _] ⟨OblS_V (fun vals ex ψ => (by
                            refine JL_normQ ⟨123, [(119, _), (120, _), (121, _), (12, _), (13, _)], _⟩ (_ :: _ :: _ :: _ :: _ :: _ :: _ :: _ :: _ :: _ :: _ :: _ :: _ :: ψ) rfl rfl ?_
                            refine JL_move rfl ?_
                            exact JL_nil (JE_stepV rfl ss0))), OblS_V (fun vals ex ψ => (by
                            refine JL_normQ ⟨123, [(119, _), (120, _), (121, _), (12, _), (13, _)], _⟩ (_ :: _ :: _ :: _ :: _ :: _ :: _ :: _ :: _ :: _ :: _ :: _ :: _ :: ψ) rfl rfl ?_
                            refine JL_move rfl ?_
                            exact JL_nil (JE_stepV rfl ss0))), OblS_V (fun vals ex ψ => (by
                            refine JL_normQ ⟨123, [(119, _), (120, _), (121, _), (12, _), (13, _)], _⟩ (_ :: _ :: _ :: _ :: _ :: _ :: _ :: _ :: _ :: _ :: _ :: _ :: _ :: ψ) rfl rfl ?_
                            refine JL_loadA (vs := [_, _, _]) 1 ty26 rfl rfl ⟨rfl, rfl, rfl, trivial⟩ ?_
                            exact JL_nil (JE_stepV rfl ss0))), OblS_V (fun vals ex ψ => (by
                            refine JL_normQ ⟨123, [(119, _), (120, _), (121, _), (12, _), (13, _)], _⟩ (_ :: _ :: _ :: _ :: _ :: _ :: _ :: _ :: _ :: _ :: _ :: _ :: _ :: ψ) rfl rfl ?_
                            refine JL_assign rfl ?_
                            exact JL_nil (JE_stepV rfl ss0))), OblS_V (fun vals ex ψ => (by
                            refine JL_normQ ⟨123, [(119, _), (120, _), (121, _), (12, _), (13, _)], _⟩ (_ :: _ :: _ :: _ :: _ :: _ :: _ :: _ :: _ :: _ :: _ :: _ :: _ :: ψ) rfl rfl ?_
                            refine JL_assign rfl ?_
                            exact JL_nil (JE_stepV rfl ss0))), trivial⟩ (by kernel_rfl) (fun vals bs => ?_)
                        refine JL_normL [_] ⟨123, [(119, _), (120, _), (121, _), (12, _), (13, _)], _⟩ [box _ _ [_, _, _], box _ _ [_, _, _]] [_, _, _, _, _, _, _, _, _, _, _, _, _] rfl rfl rfl rfl ?_
                        refine JL_store (vs := [_, _, _]) 0 ty26 rfl rfl rfl (AllOne.cons rfl (AllOne.cons rfl (AllOne.cons rfl AllOne.nil))) rfl (Nat.le_of_ble_eq_true rfl) ?_
                        refine JL_nil_up 123 [box _ _ [_, _, _], box _ _ [_, _, _]] [_, _, _, _, _, _, _, _, _, _, _, _, _] rfl rfl (by simp only [nrmF]; rfl) rfl rfl ?_
                        refine JE_block_normal ?_
                        refine JE_then ?_
                        refine JC_region ?_
                        refine JL_move rfl ?_
                        refine JL_add_to rfl rfl (IntWalk.i64_in _ (by omega)) ?_
                        refine JL_assign rfl ?_
                        refine JL_nil_up 123 [box _ _ [_, _, _], box _ _ [_, _, _]] [_, _, _, _, _, _, _, _, _, _, _, _, _] rfl rfl (by simp only [nrmF]; rfl) rfl rfl ?_
                        refine JE_dropAt 1 ?_
                        refine JE_norm _ [box _ _ [_, _, _]] [_, _, _, _, _, _, _, _, _, _, _, _, _] rfl rfl rfl ?_
                        refine JE_nextS (i + 1, i, scoK L (l.getD i dI).q tol m, errO L (l.getD i dI).q m, ad102, cp102, be102, ce102) (by kernel_rfl) ?_ ?_ (by kernel_rfl) ?_
                        · exact ⟨by omega, by omega, bst_up hB (.inr ⟨h111, cmpQ_neg.1 h116⟩)⟩
                        · first | omega | (dsimp only; omega)
                        · exact subset_app (subset_cons (by repeat (first | with_reducible exact mm0 | refine mmS ?_)) (subset_cons (by repeat (first | with_reducible exact mm0 | refine mmS ?_)) subset_nil)) (ssS (ssS (ssS (ssS (ssS (ssS ss0))))))
                      · refine JL_guard_yes rfl rfl ?_
                        refine JL_pick_t rfl rfl ?_
                        refine JL_pick_f rfl rfl ?_
                        refine JL_done_up 123 [box _ _ [_, _, _], box _ _ [_, _, _]] [_, _, _, _, _, _, _, _, _, _, _, _, _] rfl rfl (by simp only [nrmF]; rfl) rfl rfl ?_
                        refine JC_false rfl ?_
                        refine JC_skip ?_
                        refine JE_block_normal ?_
                        refine JE_then ?_
                        refine JC_region ?_
                        refine JL_move rfl ?_
                        refine JL_add_to rfl rfl (IntWalk.i64_in _ (by omega)) ?_
                        refine JL_assign rfl ?_
                        refine JL_nil_up 123 [box _ _ [_, _, _], box _ _ [_, _, _]] [_, _, _, _, _, _, _, _, _, _, _, _, _] rfl rfl (by simp only [nrmF]; rfl) rfl rfl ?_
                        refine JE_dropAt 1 ?_
                        refine JE_norm _ [box _ _ [_, _, _]] [_, _, _, _, _, _, _, _, _, _, _, _, _] rfl rfl rfl ?_
                        refine JE_nextS (i + 1, k, s, o, ad, c, be, e) (by kernel_rfl) ?_ ?_ (by kernel_rfl) ?_
                        · exact ⟨by omega, by omega, bst_no hB (fun e => e.elim h107 (fun e => h116 (cmpQ_neg.2 e.2)))⟩
                        · first | omega | (dsimp only; omega)
                        · exact subset_app (subset_cons (by repeat (first | with_reducible exact mm0 | refine mmS ?_)) (subset_cons (by repeat (first | with_reducible exact mm0 | refine mmS ?_)) subset_nil)) (ssS (ssS (ssS (ssS (ssS (ssS ss0))))))
                    · refine JL_guard_yes rfl rfl ?_
                      refine JL_move rfl ?_
                      refine JL_guard_no rfl rfl ?_
                      refine JL_guard_no rfl rfl ?_
                      refine JL_guard_no rfl rfl ?_
                      refine JL_guard_no rfl rfl ?_
                      refine JL_guard_yes rfl rfl ?_
                      refine JL_pick_f rfl rfl ?_
                      refine JL_pick_f rfl rfl ?_
                      refine JL_done_up 123 [box _ _ [_, _, _], box _ _ [_, _, _]] [_, _, _, _, _, _, _, _, _, _, _, _, _] rfl rfl (by simp only [nrmF]; rfl) rfl rfl ?_
                      refine JC_false rfl ?_
                      refine JC_skip ?_
                      refine JE_block_normal ?_
                      refine JE_then ?_
                      refine JC_region ?_
                      refine JL_move rfl ?_
                      refine JL_add_to rfl rfl (IntWalk.i64_in _ (by omega)) ?_
                      refine JL_assign rfl ?_
                      refine JL_nil_up 123 [box _ _ [_, _, _], box _ _ [_, _, _]] [_, _, _, _, _, _, _, _, _, _, _, _, _] rfl rfl (by simp only [nrmF]; rfl) rfl rfl ?_
                      refine JE_dropAt 1 ?_
                      refine JE_norm _ [box _ _ [_, _, _]] [_, _, _, _, _, _, _, _, _, _, _, _, _] rfl rfl rfl ?_
                      refine JE_nextS (i + 1, k, s, o, ad, c, be, e) (by kernel_rfl) ?_ ?_ (by kernel_rfl) ?_
                      · exact ⟨by omega, by omega, bst_no hB (fun e => e.elim h107 (fun e => h111 e.1))⟩
                      · first | omega | (dsimp only; omega)
                      · exact subset_app (subset_cons (by repeat (first | with_reducible exact mm0 | refine mmS ?_)) (subset_cons (by repeat (first | with_reducible exact mm0 | refine mmS ?_)) subset_nil)) (ssS (ssS (ssS (ssS (ssS (ssS ss0))))))
                · refine JL_done_up 123 [box _ _ [_, _, _]] [_, _, _, _, _, _, _, _, _] rfl rfl (by simp only [nrmF]; rfl) rfl rfl ?_
                  refine JC_false rfl ?_
                  refine JC_exit ?_
                  refine JE_then_exit ?_
                  refine JE_nextS_exit ?_
                  refine JE_block_exit ?_
                  refine JE_then ?_
                  refine JC_seq ?_
                  refine JC_region ?_
                  refine JL_move rfl ?_
                  refine JL_assign rfl ?_
                  refine JL_assign rfl ?_
                  refine JL_done_up 123 [box _ _ [_, _, _]] [_, _, _, _, _, _, _, _, _] rfl rfl (by simp only [nrmF]; rfl) rfl rfl ?_
                  refine JC_ret ?_
                  have he : bestE L l tol m = 0 := bestE_0 (fun e => e.elim (fun e => by rw [Classical.byContradiction h33] at e; cases e) (by omega)) (fun e => e.elim h33 (unitsBad_miss (fun j hj => hpos j (by omega)))) (fun e => e (limE_ok h49)) (by omega)
                  have hie : i = l.length := by omega
                  subst hie
                  refine JE_ret (vs := [_, _]) [] Tryz.results22 ⟨rfl, rfl, rfl⟩ ?_ ?_
                  · rw [bestK_ok he, he, hB]; exact ⟨rfl, rfl⟩
                  · exact all_nil
          · refine JL_not rfl ?_
            rw [Bool.not_false]
            refine JL_done_up 123 [] [_, _, _] rfl rfl (by simp only [nrmF]; rfl) rfl rfl ?_
            refine JC_true rfl ?_
            refine JC_seq ?_
            refine JC_region ?_
            refine JL_assign rfl ?_
            refine JL_assign rfl ?_
            refine JL_done_up 123 [] [_, _, _] rfl rfl (by simp only [nrmF]; rfl) rfl rfl ?_
            refine JC_ret ?_
            refine JE_then_ret ?_
            have he : bestE L l tol m = 2 := bestE_2 (fun e => e.elim (fun e => by rw [Classical.byContradiction h33] at e; cases e) (by omega)) (fun e => e.elim h33 (unitsBad_miss (fun j hj => hpos j (by omega)))) (by rw [limE_no h49]; decide)
            refine JE_ret (vs := [_, _]) [] Tryz.results22 ⟨rfl, rfl, rfl⟩ ?_ ?_
            · rw [bestK_no (by rw [he]; first | assumption | decide), he]; exact ⟨rfl, rfl⟩
            · exact all_nil

end Go.Fw.K
