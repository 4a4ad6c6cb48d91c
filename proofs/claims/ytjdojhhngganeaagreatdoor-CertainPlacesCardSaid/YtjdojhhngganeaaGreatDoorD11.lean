/- Walks through functions of the given program: each meets its contract. (Printed by a program of this repo.) -/
import Derived.Test.YtjdojhhngganeaaGreatDoorD9
import Derived.Test.YtjdojhhngganeaaGreatDoorDgM
import Derived.Test.YtjdojhhngganeaaGreatDoorF
import Derived.Test.YtjdojhhngganeaaGreatDoorProg
namespace Go.Fw.D11
open Go Go.RowKit Go.Proofs Go.Nat9 Go.Fw
attribute [local irreducible] JC JL JE
theorem ca28 : callable Tryz.prog 28 = true := by kernel_rfl
theorem ca40 : callable Tryz.prog 40 = true := by kernel_rfl
theorem ca66 : callable Tryz.prog 66 = true := by kernel_rfl
theorem sl22 : slOf Tryz.prog 22 = some (53, 2, 16, [.int .i64 0, .int .i64 0]) := by kernel_rfl
theorem sl57 : slOf Tryz.prog 57 = some (3, 1, 8, [.int .i64 0]) := by kernel_rfl
theorem st36 : stOf Tryz.prog 36 = some ([(0, 1), (1, 1), (2, 1)], [.bool false, .slice none 0 0, .slice none 0 0]) := by kernel_rfl
theorem ty3 : tyOf Tryz.prog 3 = some (false, 1) := by kernel_rfl
theorem ty36 : tyOf Tryz.prog 36 = some (true, 3) := by kernel_rfl
theorem z36 : zeroOf Tryz.prog 36 = some [.bool false, .slice none 0 0, .slice none 0 0] := by kernel_rfl
end Go.Fw.D11
namespace Go.Fw.K
open Go Go.RowKit Go.Proofs Go.Nat9 Go.Fw Go.Fw.D11
attribute [local irreducible] JC JL JE

set_option maxHeartbeats 1000000 in
theorem mean_con {ad : Option Addr} {c : Nat} {l : List Pr} {n i0 : Int} (hln : l.length ≤ 1000000) :
    ConF Tryz.prog 30 [.int .i64 n, .slice ad l.length c, .int .i64 i0] [vCells ad (pcells l)]
      (FOE (meanO n l i0) (meanE n l i0)) := by
  refine ConF_of Tryz.func30 rfl 52 _ rfl rfl ?_; intro w0; refine JC_norm ⟨52, [], [_, _, _, _, _, _, _, _, _, _, _, _, _, _, _, _, _, _, _, _, _, _, _, _, _, _, _, _, _, _, _, _, _, _, _, _, _, _, _, _, _, _, _, _, _, _, _, _, _, _, _, _]⟩ [] [_] rfl rfl rfl ?_; refine JC_sr ?_; refine JL_alloc z36 (fun b6 => ?_); refine JL_assign rfl ?_; refine JL_du 52 [box _ _ [_, _, _]] [_] ?_; refine JC_sr ?_; refine JL_m ?_; refine JL_m ?_; refine JL_callF' (Asks.cons (holds_of_mem am) Asks.nil) (cntd_con hln) rfl ca40 ⟨rfl, rfl, rfl⟩ ?_; rintro _ _ ⟨rfl, rfl⟩; refine JL_m ?_; refine JL_extract rfl rfl ?_; refine JL_extract rfl rfl ?_; refine JL_assign rfl ?_; refine JL_assign rfl ?_; refine JL_du 52 [box _ _ [_, _, _]] [_] ?_; refine JC_seq ?_; refine JC_sr ?_; refine JL_m ?_; refine JL_neq rfl rfl ?_; refine JL_split (fun h22 => ?_) (fun h22 => ?_)
  · refine JL_du 52 [box _ _ [_, _, _]] [_] ?_; refine JC_true rfl ?_; refine JC_sr ?_; refine JL_build (cs := [_, _, _]) [] st36 rfl rfl ?_; refine JL_m ?_; refine JL_store (vs := [_, _, _]) 0 ty36 rfl rfl rfl (AllOne.cons rfl (AllOne.cons rfl (AllOne.cons rfl AllOne.nil))) rfl (Nat.le_of_ble_eq_true rfl) ?_; refine JL_assign rfl ?_; refine JL_du 52 [box _ _ [_, _, _]] [_] ?_; refine JC_ret ?_; refine JE_then_ret ?_; refine JE_nilView ?_; refine JE_ret (vs := [_, _]) [vCells none (u32s []), vCells none (u32s [])] Tryz.results30 ⟨RV.cell (vs := [_, _, _]) 0 ty36 rfl rfl ⟨rfl, rfl, rfl, trivial⟩, rfl, rfl⟩ ?_ ?_
    · exact ⟨none, 0, none, 0, by rw [(mean_no h22).1, (mean_no h22).2]; rfl, by rw [(mean_no h22).1]; rfl⟩
    · exact (all_cons am (all_cons am all_nil))
  · refine JL_du 52 [box _ _ [_, _, _]] [_] ?_; refine JC_false rfl ?_; refine JC_skip ?_; refine JE_then ?_; refine JC_sr ?_; refine JL_m ?_; refine JL_m ?_; refine JL_m ?_; refine JL_callF' (Asks.cons (holds_of_mem am) Asks.nil) (place_con hln) rfl ca66 ⟨rfl, rfl, rfl, rfl⟩ ?_; rintro _ _ ⟨ad29, c29, rfl, hc29, rfl⟩; refine JL_m ?_; refine JL_extract rfl rfl ?_; refine JL_extract rfl rfl ?_; refine JL_assign rfl ?_; refine JL_assign rfl ?_; refine JL_du 52 [box _ _ [_, _, _]] [_, _] ?_; refine JC_seq ?_; refine JC_sr ?_; refine JL_m ?_; refine JL_neq rfl rfl ?_; refine JL_split (fun h33 => ?_) (fun h33 => ?_)
    · refine JL_du 52 [box _ _ [_, _, _]] [_, _] ?_; refine JC_true rfl ?_; refine JC_sr ?_; refine JL_build (cs := [_, _, _]) [] st36 rfl rfl ?_; refine JL_m ?_; refine JL_store (vs := [_, _, _]) 0 ty36 rfl rfl rfl (AllOne.cons rfl (AllOne.cons rfl (AllOne.cons rfl AllOne.nil))) rfl (Nat.le_of_ble_eq_true rfl) ?_; refine JL_assign rfl ?_; refine JL_du 52 [box _ _ [_, _, _]] [_, _] ?_; refine JC_ret ?_; refine JE_then_ret ?_; refine JE_nilView ?_; refine JE_ret (vs := [_, _]) [vCells none (u32s []), vCells none (u32s [])] Tryz.results30 ⟨RV.cell (vs := [_, _, _]) 0 ty36 rfl rfl ⟨rfl, rfl, rfl, trivial⟩, rfl, rfl⟩ ?_ ?_
      · exact ⟨none, 0, none, 0, by rw [(mean_bad h33).1, (mean_bad h33).2]; rfl, by rw [(mean_bad h33).1]; rfl⟩
      · exact (all_cons am (all_cons am all_nil))
    · refine JL_du 52 [box _ _ [_, _, _]] [_, _] ?_; refine JC_false rfl ?_; refine JC_skip ?_; refine JE_then ?_; refine JC_seq ?_; obtain ⟨m, i, rfl, rfl, him, hC⟩ := plcE_ok (Classical.byContradiction h33)
      have hten := hC.ten
      rw [(plc_ok hC him).1]
      have hpl := placeL_len m l i
      refine JC_region ?_; refine JL_assign rfl ?_; refine JL_du 52 [box _ _ [_, _, _]] [_, _] ?_; refine JC_seq ?_; refine JC_sr ?_; refine JL_m ?_; refine JL_len sl57 rfl ?_; refine JL_m ?_; refine JL_du 52 [box _ _ [_, _, _]] [_, _] ?_; refine JC_block ?_; refine JC_loopS ((Nat) × (Int)) (fun (k, z) => k ≤ m ∧ sumP (placeL m l i) k = z) (fun (k, z) => m - k) (fun u (k, z) => [none, none, none, none, none, none, none, none, none, none, none, none, some (.int .i64 z), some (u 13), some (u 14), none, none, none, none, none, none, none, none, none, none, none, none, none, none, none, none, none, none, none, none, none, none, none, some (.int .i64 (k : Nat)), some (u 39), some (u 40), some (u 41), some (u 42), some (u 43), some (u 44), some (u 45), some (u 46), some (u 47), some (u 48), none, none, none]) (fun (k, z) => [none]) (fun (k, z) => []) (0, 0) (by kernel_rfl) ?_ (by kernel_rfl) ?_ ?_
      · exact ⟨Nat.zero_le _, rfl⟩
      · exact subset_nil
      intro u i hC; obtain ⟨k, z⟩ := i; obtain ⟨hk, hz⟩ := hC; refine JC_nm 52 [box _ _ [_, _, _]] [_, _] ?_; refine JC_sr ?_; refine JL_lss rfl rfl ?_; refine JL_split (fun h39 => ?_) (fun h39 => ?_)
      · refine JL_du 52 [box _ _ [_, _, _]] [_, _] ?_; refine JC_seq ?_; refine JC_true rfl ?_; refine JC_skip ?_; refine JE_then ?_; refine JC_seq ?_; refine JC_block ?_; refine JC_sr ?_; refine JL_m ?_; refine JL_idx k sl57 rfl rfl rfl (by omega) (by first | exact Reads.view am) (by first | (rw [u32s_length]; omega) | (rw [i64s_length]; omega)) ?_; refine JL_loadE ty3 rfl (by first | exact Reads.view am) (i64s_get (by omega)) ?_; refine JL_assign rfl ?_; refine JL_assign rfl ?_; refine JL_du 52 [box _ _ [_, _, _]] [_, _] ?_; obtain ⟨p, hpm, hpb⟩ := mean_step (a := l) (v := i) hten (show k < m by omega)
        have hzb := sumP_in hten (a := l) (v := i) (show k ≤ m by omega)
        rw [hz] at hzb; refine JC_region ?_; refine JL_m ?_; refine JL_m ?_; refine JL_m ?_; refine JL_mul_to rfl rfl (i64_of hpm (by omega) (by omega)) ?_; refine JL_add_to rfl rfl (IntWalk.i64_in _ (by omega)) ?_; refine JL_assign rfl ?_; refine JL_nu 52 [box _ _ [_, _, _]] [_, _] ?_; refine JE_block_normal ?_; refine JE_then ?_; refine JC_region ?_; refine JL_add_to rfl rfl (IntWalk.i64_in _ (by omega)) ?_; refine JL_m ?_; refine JL_nu 52 [box _ _ [_, _, _]] [_, _] ?_; refine JE_nextS (k + 1, z + ((p : Nat) : Int)) (by kernel_rfl) ?_ ?_ (by kernel_rfl) ?_
        · exact ⟨by omega, by rw [sumP, hz, hpm]⟩
        · first | omega | (dsimp only; omega)
        · exact subset_app subset_nil ss0
      · refine JL_du 52 [box _ _ [_, _, _]] [_, _] ?_; refine JC_seq ?_; refine JC_false rfl ?_; refine JC_exit ?_; refine JE_then_exit ?_; refine JE_nextS_exit ?_; refine JE_block_exit ?_; refine JE_then ?_; refine JC_seq ?_
        have hke : k = m := by omega
        obtain rfl : z = ((posS m l i : Nat) : Int) := by rw [← hz, hke]; exact sumP_full him
        rw [cntN_len hC.dg hten]
        have hs1 := seqs_le (a := l) hten
        have hs2 := posS_le (a := l) hten him
        refine JC_region ?_; refine JL_m ?_; refine JL_m ?_; refine JL_callF' Asks.nil (fofi_con _ _ (by omega) (by omega)) rfl ca28 ⟨rfl, rfl, rfl⟩ ?_; rintro _ _ ⟨ad51, cp51, be51, ce51, rfl, rfl⟩; rw [show ofq ((posS m l i : Nat) : Int) (((seqsL m l).length : Nat) : Int) = meanQ m l i from rfl]; refine JL_store (vs := [_, _, _]) 0 ty36 rfl rfl rfl (AllOne.cons rfl (AllOne.cons rfl (AllOne.cons rfl AllOne.nil))) rfl (Nat.le_of_ble_eq_true rfl) ?_; refine JL_assign rfl ?_; refine JL_du 52 [box _ _ [_, _, _]] [_, _, _, _] ?_; refine JC_ret ?_; refine JE_ret (vs := [_, _]) [vCells ad51 (u32s (fnum (some (meanQ m l i)))), vCells be51 (u32s (fden (some (meanQ m l i))))] Tryz.results30 ⟨RV.cell (vs := [_, _, _]) 0 ty36 rfl rfl ⟨rfl, rfl, rfl, trivial⟩, rfl, rfl⟩ ?_ ?_
        · exact ⟨ad51, cp51, be51, ce51, by rw [(mean_ok hC him).1, (mean_ok hC him).2]; rfl, by rw [(mean_ok hC him).1]⟩
        · exact (all_cons am (all_cons am all_nil))

theorem few_con {ad : Option Addr} {c : Nat} {l : List Pr} {n : Int} :
    ConF Tryz.prog 11 [.int .i64 n, .slice ad l.length c] []
      (fun v φo => v = .bool (decide ((n ≤ 5 ∨ 10 < n) ∧ l.length ≤ 60)) ∧ φo = []) := by
  refine ConF_of Tryz.func11 rfl 16 _ rfl rfl ?_; intro w0; refine JC_norm ⟨16, [], [_, _, _, _, _, _, _, _, _, _, _, _, _, _, _, _]⟩ [] [] rfl rfl rfl ?_; refine JC_sr ?_; refine JL_assign rfl ?_; refine JL_du 16 [] [] ?_; refine JC_seq ?_
  rcases few3 n with hA | ⟨hA, hB⟩ | ⟨hA, hB⟩
  · refine JC_region ?_; refine JL_m ?_; refine JL_leq rfl rfl ?_; rw [decide_eq_true (p := n ≤ 5) (by omega)]; refine JL_m ?_; refine JL_gn ?_; refine JL_gn ?_; refine JL_pick_t rfl rfl ?_; refine JL_m ?_; refine JL_gy ?_; refine JL_m ?_; refine JL_gy ?_; refine JL_len sl22 rfl ?_; refine JL_gy ?_; refine JL_leq rfl rfl ?_; refine JL_split (fun h14 => ?_) (fun h14 => ?_)
    · refine JL_pick_t rfl rfl ?_; refine JL_assign rfl ?_; refine JL_du 16 [] [] ?_; refine JC_ret ?_; refine JE_ret (vs := [_]) [] Tryz.results11 ⟨rfl, rfl⟩ ?_ ?_
      · rw [show decide ((n ≤ 5 ∨ 10 < n) ∧ l.length ≤ 60) = true from decide_eq_true ⟨by omega, by omega⟩]; exact ⟨rfl, rfl⟩
      · exact all_nil
    · refine JL_pick_t rfl rfl ?_; refine JL_assign rfl ?_; refine JL_du 16 [] [] ?_; refine JC_ret ?_; refine JE_ret (vs := [_]) [] Tryz.results11 ⟨rfl, rfl⟩ ?_ ?_
      · rw [show decide ((n ≤ 5 ∨ 10 < n) ∧ l.length ≤ 60) = false from decide_eq_false (fun h => by omega)]; exact ⟨rfl, rfl⟩
      · exact all_nil
  · refine JC_region ?_; refine JL_m ?_; refine JL_leq rfl rfl ?_; rw [decide_eq_false (p := n ≤ 5) (by omega)]; refine JL_m ?_; refine JL_gy ?_; refine JL_m ?_; refine JL_gy ?_; refine JL_gtr rfl rfl ?_; rw [decide_eq_true (p := 10 < n) (by omega)]; refine JL_pick_f rfl rfl ?_; refine JL_m ?_; refine JL_gy ?_; refine JL_m ?_; refine JL_gy ?_; refine JL_len sl22 rfl ?_; refine JL_gy ?_; refine JL_leq rfl rfl ?_; refine JL_split (fun h14 => ?_) (fun h14 => ?_)
    · refine JL_pick_t rfl rfl ?_; refine JL_assign rfl ?_; refine JL_du 16 [] [] ?_; refine JC_ret ?_; refine JE_ret (vs := [_]) [] Tryz.results11 ⟨rfl, rfl⟩ ?_ ?_
      · rw [show decide ((n ≤ 5 ∨ 10 < n) ∧ l.length ≤ 60) = true from decide_eq_true ⟨by omega, by omega⟩]; exact ⟨rfl, rfl⟩
      · exact all_nil
    · refine JL_pick_t rfl rfl ?_; refine JL_assign rfl ?_; refine JL_du 16 [] [] ?_; refine JC_ret ?_; refine JE_ret (vs := [_]) [] Tryz.results11 ⟨rfl, rfl⟩ ?_ ?_
      · rw [show decide ((n ≤ 5 ∨ 10 < n) ∧ l.length ≤ 60) = false from decide_eq_false (fun h => by omega)]; exact ⟨rfl, rfl⟩
      · exact all_nil
  · refine JC_region ?_; refine JL_m ?_; refine JL_leq rfl rfl ?_; rw [decide_eq_false (p := n ≤ 5) (by omega)]; refine JL_m ?_; refine JL_gy ?_; refine JL_m ?_; refine JL_gy ?_; refine JL_gtr rfl rfl ?_; rw [decide_eq_false (p := 10 < n) (by omega)]; refine JL_pick_f rfl rfl ?_; refine JL_m ?_; refine JL_gn ?_; refine JL_gn ?_; refine JL_gn ?_; refine JL_pick_f rfl rfl ?_; refine JL_assign rfl ?_; refine JL_du 16 [] [] ?_; refine JC_ret ?_; refine JE_ret (vs := [_]) [] Tryz.results11 ⟨rfl, rfl⟩ ?_ ?_
    · rw [show decide ((n ≤ 5 ∨ 10 < n) ∧ l.length ≤ 60) = false from decide_eq_false (fun h => by omega)]; exact ⟨rfl, rfl⟩
    · exact all_nil

end Go.Fw.K
