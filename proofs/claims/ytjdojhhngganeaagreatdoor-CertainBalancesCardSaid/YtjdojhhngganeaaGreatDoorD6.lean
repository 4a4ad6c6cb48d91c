/- Walks through functions of the given program: each meets its contract. (Printed by a program of this repo.) -/
import Derived.Test.YtjdojhhngganeaaGreatDoorD5
import Derived.Test.YtjdojhhngganeaaGreatDoorProg
namespace Go.Fw.D6
open Go Go.RowKit Go.Proofs Go.Nat9 Go.Fw
attribute [local irreducible] JC JL JE
theorem ca33 : callable Tryz.prog 33 = true := by kernel_rfl
theorem ca40 : callable Tryz.prog 40 = true := by kernel_rfl
theorem sl29 : slOf Tryz.prog 29 = some (44, 2, 16, [.int .i64 0, .int .i64 0]) := by kernel_rfl
theorem st44 : stOf Tryz.prog 44 = some ([(0, 1), (1, 1)], [.int .i64 0, .int .i64 0]) := by kernel_rfl
end Go.Fw.D6
namespace Go.Fw.K
open Go Go.RowKit Go.Proofs Go.Nat9 Go.Fw Go.Fw.D6
attribute [local irreducible] JC JL JE

set_option maxHeartbeats 1000000 in
theorem open_con {ad : Option Addr} {c : Nat} {l : List Pr} {n : Int} (hln : l.length ≤ 1000000) :
    ConF Tryz.prog 13 [.int .i64 n, .slice ad l.length c] [vCells ad (pcells l)]
      (SPP (opnR n l) (seqE n l)) := by
  refine ConF_of Tryz.func13 rfl 53 _ rfl rfl ?_; intro w0; refine JC_norm ⟨53, [], [_, _, _, _, _, _, _, _, _, _, _, _, _, _, _, _, _, _, _, _, _, _, _, _, _, _, _, _, _, _, _, _, _, _, _, _, _, _, _, _, _, _, _, _, _, _, _, _, _, _, _, _, _]⟩ [] [_] rfl rfl rfl ?_; refine JC_sr ?_; refine JL_assign rfl ?_; refine JL_assign rfl ?_; refine JL_du 53 [] [_] ?_; refine JC_seq ?_; refine JC_sr ?_; refine JL_m ?_; refine JL_m ?_; refine JL_callF' (Asks.cons (holds_of_mem am) Asks.nil) (cntd_con hln) rfl ca40 ⟨rfl, rfl, rfl⟩ ?_; rintro _ _ ⟨rfl, rfl⟩; refine JL_m ?_; refine JL_extract rfl rfl ?_; refine JL_extract rfl rfl ?_; refine JL_assign rfl ?_; refine JL_assign rfl ?_; refine JL_du 53 [] [_] ?_; refine JC_sr ?_; refine JL_m ?_; refine JL_neq rfl rfl ?_; refine JL_split (fun h18 => ?_) (fun h18 => ?_)
  · refine JL_du 53 [] [_] ?_; refine JC_true rfl ?_; refine JC_sr ?_; refine JL_m ?_; refine JL_assign rfl ?_; refine JL_assign rfl ?_; refine JL_du 53 [] [_] ?_; refine JC_ret ?_; refine JE_then_ret ?_; refine JE_addView (f := true) (p := vCells none (pcells [])) (fun _ _ => nilP) ?_; refine JE_ret (vs := [_, _]) [vCells none (pcells [])] Tryz.results13 ⟨rfl, rfl, rfl⟩ ?_ ?_
    · rw [opn_no h18]; exact ⟨none, 0, rfl, caps0, rfl⟩
    · exact (all_cons am all_nil)
  · refine JL_du 53 [] [_] ?_; refine JC_false rfl ?_; refine JC_skip ?_; refine JE_then ?_; refine JC_seq ?_
    have hz : seqE n l = 0 := Classical.byContradiction h18
    obtain ⟨hd, hn10, _⟩ := seqE_zero hz; obtain ⟨m, hm⟩ : ∃ m : Nat, n = (m : Int) := ⟨n.toNat, by have := hd.1.1; omega⟩
    have hm2 : n.toNat = m := by omega
    refine JC_region ?_; refine JL_assign rfl ?_; refine JL_du 53 [] [_] ?_; refine JC_seq ?_; refine JC_sr ?_; refine JL_m ?_; refine JL_m ?_; refine JL_du 53 [] [_] ?_; refine JC_block ?_; refine JC_addNil 44 2 ?_; refine JC_norm ⟨53, [], [_, _, _, _, _, _, _, _, _, _, _, _, _, _, _, _, _, _, _, _, _, _, _, _, _, _, _, _, _, _, _, _, _, _, _, _, _, _, _, _, _, _, _, _, _, _, _, _, _, _, _, _, _]⟩ [osl _ _ _ _ _ _] [_] rfl rfl rfl ?_
    refine JC_loopS ((Nat) × (List Pr) × (Option Addr) × (Nat) × (Nat)) (fun (i, q, ad3, cap3, n3) => i ≤ m ∧ opL n m l i = q ∧ q.length = n3) (fun (i, q, ad3, cap3, n3) => m - i) (fun u (i, q, ad3, cap3, n3) => [none, none, none, none, none, none, none, none, some (.slice ad3 n3 cap3), some (u 9), some (u 10), none, none, none, none, none, none, none, none, none, none, some (.int .i64 (i : Nat)), some (u 22), some (u 23), some (u 24), some (u 25), some (u 26), some (u 27), some (u 28), some (u 29), some (u 30), some (u 31), some (u 32), some (u 33), some (u 34), some (u 35), some (u 36), some (u 37), some (u 38), some (u 39), some (u 40), some (u 41), some (u 42), some (u 43), some (u 44), some (u 45), some (u 46), some (u 47), some (u 48), some (u 49), some (u 50), some (u 51), none]) (fun (i, q, ad3, cap3, n3) => [some (osl ad3 n3 cap3 44 2 (pcells q))]) (fun (i, q, ad3, cap3, n3) => []) (0, [], none, 0, 0) (by kernel_rfl) ?_ (by kernel_rfl) ?_ ?_
    · exact ⟨Nat.zero_le _, rfl, rfl⟩
    · exact subset_nil
    intro u i hC; obtain ⟨i, q, ad3, cap3, n3⟩ := i; obtain ⟨hi, hq, hn3⟩ := hC; refine JC_nm 53 [osl _ _ _ _ _ _] [_] ?_; refine JC_sr ?_; refine JL_lss rfl rfl ?_; refine JL_split (fun h22 => ?_) (fun h22 => ?_)
    · refine JL_du 53 [osl _ _ _ _ _ _] [_] ?_; refine JC_seq ?_; refine JC_true rfl ?_; refine JC_skip ?_; refine JE_then ?_; refine JC_seq ?_; refine JC_block ?_; refine JC_sr ?_; refine JL_m ?_; refine JL_assign rfl ?_; refine JL_du 53 [osl _ _ _ _ _ _] [_] ?_; refine JC_sr ?_; refine JL_m ?_; refine JL_add_to rfl rfl (IntWalk.i64_in _ (by omega)) ?_; rw [show ((i : Int) + 1 : Int) = ((i + 1 + 0 : Nat) : Int) from by omega]; refine JL_assign rfl ?_; refine JL_du 53 [osl _ _ _ _ _ _] [_] ?_; refine JC_block ?_
      refine JC_loopS ((Nat) × (List Pr) × (Option Addr) × (Nat) × (Nat)) (fun (t, q2, ad4, cap4, n4) => t ≤ m - (i + 1) ∧ opL n m l i ++ opJ n l i t = q2 ∧ q2.length = n4) (fun (t, q2, ad4, cap4, n4) => m - t) (fun u (t, q2, ad4, cap4, n4) => [none, none, none, none, none, none, none, none, some (.slice ad4 n4 cap4), none, some (.int .i64 ((i + 1 + t : Nat) : Int)), none, none, none, none, none, none, none, none, none, none, none, none, none, none, none, some (u 26), some (u 27), some (u 28), some (u 29), some (u 30), some (u 31), some (u 32), some (u 33), some (u 34), some (u 35), some (u 36), some (u 37), some (u 38), some (u 39), some (u 40), some (u 41), some (u 42), some (u 43), some (u 44), some (u 45), some (u 46), some (u 47), some (u 48), some (u 49), some (u 50), none, none]) (fun (t, q2, ad4, cap4, n4) => [some (osl ad4 n4 cap4 44 2 (pcells q2))]) (fun (t, q2, ad4, cap4, n4) => []) (0, q, ad3, cap3, n3) (by kernel_rfl) ?_ (by kernel_rfl) ?_ ?_
      · exact ⟨Nat.zero_le _, by rw [opJ, List.append_nil, hq], hn3⟩
      · exact subset_nil
      intro u i hC; obtain ⟨t, q2, ad4, cap4, n4⟩ := i; obtain ⟨ht, hq2, hn4⟩ := hC; refine JC_nm 53 [osl _ _ _ _ _ _] [_] ?_
      have hL1 := opL_len n m l i
      have hJ1 := opJ_len n l i t
      have hQ1 := congrArg List.length hq2
      rw [List.length_append, hn4] at hQ1
      have hM1 : i * m ≤ 24 * 24 := Nat.mul_le_mul (by omega) (by omega)
      refine JC_seq ?_; refine JC_sr ?_; refine JL_m ?_; refine JL_m ?_; refine JL_lss rfl rfl ?_; refine JL_split (fun h28 => ?_) (fun h28 => ?_)
      · refine JL_du 53 [osl _ _ _ _ _ _] [_] ?_; refine JC_true rfl ?_; refine JC_skip ?_; refine JE_then ?_; refine JC_seq ?_; refine JC_block ?_; refine JC_sr ?_; refine JL_m ?_; refine JL_m ?_; refine JL_m ?_; refine JL_m ?_; refine JL_callF' (Asks.cons (by first | exact holds_of_mem am | (exact holds_of_own 0 rfl)) Asks.nil) (reaches_con hln) rfl ca33 ⟨rfl, rfl, rfl, rfl, rfl⟩ ?_; rintro _ _ ⟨rfl, rfl⟩; refine JL_splitV (fun h35 => ?_) (fun h35 => ?_)
        · refine JL_not rfl ?_; rw [Bool.not_true]; refine JL_m ?_; refine JL_gn ?_; refine JL_gn ?_; refine JL_gn ?_; refine JL_gn ?_; refine JL_gn ?_; refine JL_gn ?_; refine JL_pick_f rfl rfl ?_; refine JL_du 53 [osl _ _ _ _ _ _] [_] ?_; refine JC_false rfl ?_; refine JC_skip ?_; refine JE_block_normal ?_; refine JE_then ?_; refine JC_region ?_; refine JL_m ?_; refine JL_add_to rfl rfl (IntWalk.i64_in _ (by omega)) ?_; rw [show (((i + 1 + t : Nat) : Int) + 1 : Int) = ((i + 1 + (t + 1) : Nat) : Int) from by omega]; refine JL_assign rfl ?_; refine JL_nu 53 [osl _ _ _ _ _ _] [_] ?_; refine JE_nextS (t + 1, q2, ad4, cap4, n4) (by kernel_rfl) ?_ ?_ (by kernel_rfl) ?_
          · exact ⟨by omega, by rw [opJ, if_neg (fun e => e.1 (of_decide_eq_true h35)), hq2], hn4⟩
          · first | omega | (dsimp only; omega)
          · exact subset_app subset_nil ss0
        · refine JL_not rfl ?_; rw [Bool.not_false]; refine JL_m ?_; refine JL_gy ?_; refine JL_m ?_; refine JL_gy ?_; refine JL_m ?_; refine JL_gy ?_; refine JL_m ?_; refine JL_gy ?_; refine JL_m ?_; refine JL_gy ?_; refine JL_callF' (Asks.cons (by first | exact holds_of_mem am | (exact holds_of_own 0 rfl)) Asks.nil) (reaches_con hln) rfl ca33 ⟨rfl, rfl, rfl, rfl, rfl⟩ ?_; rintro _ _ ⟨rfl, rfl⟩; refine JL_splitV (fun h42 => ?_) (fun h42 => ?_)
          · refine JL_gy ?_; refine JL_not rfl ?_; rw [Bool.not_true]; refine JL_pick_t rfl rfl ?_; refine JL_du 53 [osl _ _ _ _ _ _] [_] ?_; refine JC_false rfl ?_; refine JC_skip ?_; refine JE_block_normal ?_; refine JE_then ?_; refine JC_region ?_; refine JL_m ?_; refine JL_add_to rfl rfl (IntWalk.i64_in _ (by omega)) ?_; rw [show (((i + 1 + t : Nat) : Int) + 1 : Int) = ((i + 1 + (t + 1) : Nat) : Int) from by omega]; refine JL_assign rfl ?_; refine JL_nu 53 [osl _ _ _ _ _ _] [_] ?_; refine JE_nextS (t + 1, q2, ad4, cap4, n4) (by kernel_rfl) ?_ ?_ (by kernel_rfl) ?_
            · exact ⟨by omega, by rw [opJ, if_neg (fun e => e.2 (of_decide_eq_true h42)), hq2], hn4⟩
            · first | omega | (dsimp only; omega)
            · exact subset_app subset_nil ss0
          · refine JL_gy ?_; refine JL_not rfl ?_; rw [Bool.not_false]; refine JL_pick_t rfl rfl ?_; refine JL_du 53 [osl _ _ _ _ _ _] [_] ?_; refine JC_true rfl ?_; refine JC_region ?_; refine JL_m ?_; refine JL_m ?_; refine JL_m ?_; refine JL_build (cs := [_, _]) [(0, [_]), (1, [_])] st44 ⟨⟨rfl, _, rfl, rfl⟩, ⟨rfl, _, rfl, rfl⟩, rfl⟩ rfl ?_; refine JL_buildN (cs0 := [.int .i64 0, .int .i64 0]) (cs := [_, _]) [(0, [_, _])] sl29 (by kernel_rfl) ⟨⟨rfl, _, rfl, rfl⟩, rfl⟩ rfl rfl rfl rfl (fun g49 => ?_); refine JL_append (news := [_, _]) 0 sl29 rfl (by decide) rfl rfl rfl rfl (Reads.own 1 rfl) (AllOne.cons rfl (AllOne.cons rfl AllOne.nil)) (by omega) (by omega) (fun ad50 cap50 hc50 => ?_); refine JL_dropAt 1 ?_; refine JL_norm _ [osl _ _ _ _ _ _] [_] rfl rfl rfl ?_; rw [show pcells q2 ++ pc ((i : Int), ((i + 1 + t : Nat) : Int)) = pcells (q2 ++ [((i : Int), ((i + 1 + t : Nat) : Int))]) from pcells_snoc q2 _]; refine JL_assign rfl ?_; refine JL_nu 53 [osl _ _ _ _ _ _] [_] ?_; refine JE_block_normal ?_; refine JE_then ?_; refine JC_region ?_; refine JL_m ?_; refine JL_add_to rfl rfl (IntWalk.i64_in _ (by omega)) ?_
            rw [show (((i + 1 + t : Nat) : Int) + 1 : Int) = ((i + 1 + (t + 1) : Nat) : Int) from by omega]; refine JL_assign rfl ?_; refine JL_nu 53 [osl _ _ _ _ _ _] [_] ?_; refine JE_nextS (t + 1, q2 ++ [((i : Int), ((i + 1 + t : Nat) : Int))], ad50, cap50, n4 + 1) (by kernel_rfl) ?_ ?_ (by kernel_rfl) ?_
            · exact ⟨by omega, by rw [opJ, if_pos ⟨of_decide_eq_false h35, of_decide_eq_false h42⟩, ← List.append_assoc, hq2], by rw [List.length_append, hn4]; rfl⟩
            · first | omega | (dsimp only; omega)
            · exact subset_app subset_nil ss0
      · refine JL_du 53 [osl _ _ _ _ _ _] [_] ?_; refine JC_false rfl ?_; refine JC_exit ?_; refine JE_then_exit ?_; refine JE_nextS_exit ?_; refine JE_block_exit ?_; refine JE_block_normal ?_; refine JE_then ?_; refine JC_region ?_; refine JL_add_to rfl rfl (IntWalk.i64_in _ (by omega)) ?_; refine JL_m ?_; refine JL_nu 53 [osl _ _ _ _ _ _] [_] ?_; refine JE_nextS (i + 1, q2, ad4, cap4, n4) (by kernel_rfl) ?_ ?_ (by kernel_rfl) ?_
        · exact ⟨by omega, by rw [opL, ← hq2, show t = m - (i + 1) from by omega], hn4⟩
        · first | omega | (dsimp only; omega)
        · exact subset_app subset_nil ss0
    · refine JL_du 53 [osl _ _ _ _ _ _] [_] ?_; refine JC_seq ?_; refine JC_false rfl ?_; refine JC_exit ?_; refine JE_then_exit ?_; refine JE_nextS_exit ?_; refine JE_block_exit ?_; refine JE_then ?_; refine JC_seq ?_
      have hie : i = m := by omega
      subst hn3; rw [hie] at hq; refine JC_ownCap 0 rfl (fun hcap => ?_)
      have hqq : opnR n l = q := by rw [opn_ok hz, hm2]; exact hq
      refine JC_region ?_; refine JL_m ?_; refine JL_assign rfl ?_; refine JL_assign rfl ?_; refine JL_du 53 [osl _ _ _ _ _ _] [_] ?_; refine JC_ret ?_; refine JE_give 0 rfl ?_; refine JE_norm _ [] [_, _] rfl rfl rfl ?_; refine JE_ret (vs := [_, _]) [vCells ad3 (pcells q)] Tryz.results13 ⟨rfl, rfl, rfl⟩ ?_ ?_
      · rw [hqq, hz]; exact ⟨ad3, cap3, rfl, hcap, rfl⟩
      · exact (all_cons am all_nil)

end Go.Fw.K
