/- Walks through functions of the given program: each meets its contract. (Printed by a program of this repo.) -/
import Derived.Test.YtjdojhhngganeaaGreatDoorD2
import Derived.Test.YtjdojhhngganeaaGreatDoorDgD
import Derived.Test.YtjdojhhngganeaaGreatDoorProg
namespace Go.Fw.D3
open Go Go.RowKit Go.Proofs Go.Nat9 Go.Fw
attribute [local irreducible] JC JL JE
theorem aro102 : arrOf Tryz.prog 102 = some (24, 4, 1) := by kernel_rfl
theorem aro103 : arrOf Tryz.prog 103 = some (24, 102, 24) := by kernel_rfl
theorem ca119 : callable Tryz.prog 119 = true := by kernel_rfl
theorem ca53 : callable Tryz.prog 53 = true := by kernel_rfl
theorem ca54 : callable Tryz.prog 54 = true := by kernel_rfl
theorem ca55 : callable Tryz.prog 55 = true := by kernel_rfl
theorem ca81 : callable Tryz.prog 81 = true := by kernel_rfl
theorem fo114_1 : fOf Tryz.prog 114 1 = some 1 := by kernel_rfl
theorem fo53_0 : fOf Tryz.prog 53 0 = some 0 := by kernel_rfl
theorem fo53_1 : fOf Tryz.prog 53 1 = some 1 := by kernel_rfl
theorem mixed : Tryz.prog.follows .mixedOrders = true := by kernel_rfl
theorem sl22 : slOf Tryz.prog 22 = some (53, 2, 16, [.int .i64 0, .int .i64 0]) := by kernel_rfl
theorem sl57 : slOf Tryz.prog 57 = some (3, 1, 8, [.int .i64 0]) := by kernel_rfl
theorem ty103 : tyOf Tryz.prog 103 = some (true, 576) := by kernel_rfl
theorem ty3 : tyOf Tryz.prog 3 = some (false, 1) := by kernel_rfl
theorem ty4 : tyOf Tryz.prog 4 = some (false, 1) := by kernel_rfl
theorem ty57 : tyOf Tryz.prog 57 = some (false, 1) := by kernel_rfl
theorem z103 : zeroOf Tryz.prog 103 = some (List.replicate 576 (.bool false)) := by kernel_rfl
end Go.Fw.D3
namespace Go.Fw.K
open Go Go.RowKit Go.Proofs Go.Nat9 Go.Fw Go.Fw.D3
attribute [local irreducible] JC JL JE

set_option maxHeartbeats 4000000 in
theorem table_con {ad : Option Addr} {c : Nat} {l : List Pr} {n : Nat} (h : dgC n l) (hln : l.length ≤ 1000000) :
    ConF Tryz.prog 81 [.int .i64 (n : Nat), .slice ad l.length c] [vCells ad (pcells l)]
      (fun v φo => v = .agg (tb (reachL n l)).toArray ∧ φo = []) := by
  have hn24 : n ≤ 24 := by have := h.1; omega
  have hnl := nextL_len n l
  have hnb := nextL_bnd h
  refine ConF_of Tryz.func81 rfl 60 _ rfl rfl ?_; intro w0; refine JC_norm ⟨60, [], [_, _, _, _, _, _, _, _, _, _, _, _, _, _, _, _, _, _, _, _, _, _, _, _, _, _, _, _, _, _, _, _, _, _, _, _, _, _, _, _, _, _, _, _, _, _, _, _, _, _, _, _, _, _, _, _, _, _, _, _]⟩ [] [_] rfl rfl rfl ?_; refine JC_sr ?_; refine JL_alloc z103 (fun b4 => ?_); refine JL_du 60 [_] [_] ?_; refine JC_sr ?_; refine JL_alloc z103 (fun b5 => ?_); refine JL_du 60 [_, _] [_] ?_; refine JC_seq ?_; refine JC_seq ?_; rw [← tb_zero n]; refine JC_region ?_; refine JL_assign rfl ?_; refine JL_du 60 [_, _] [_] ?_; refine JC_block ?_
  refine JC_loopS ((Nat) × (List Nat)) (fun (i, r) => i ≤ l.length ∧ nxt l (List.replicate n 0) i = r) (fun (i, r) => l.length - i) (fun u (i, r) => [none, none, none, none, none, none, some (.int .i64 (i : Nat)), none, none, none, some (u 10), some (u 11), some (u 12), some (u 13), some (u 14), some (u 15), some (u 16), some (u 17), some (u 18), some (u 19), some (u 20), some (u 21), some (u 22), some (u 23), some (u 24), some (u 25), some (u 26), some (u 27), none, none, none, none, none, none, none, none, none, none, none, none, none, none, none, none, none, none, none, none, none, none, none, none, none, none, none, none, none, none, none, none]) (fun (i, r) => [none, some (box b5 103 (tb r))]) (fun (i, r) => []) (0, (List.replicate n 0)) (by kernel_rfl) ?_ (by kernel_rfl) ?_ ?_
  · exact ⟨Nat.zero_le _, rfl⟩
  · exact subset_nil
  intro u i hC; obtain ⟨i, r⟩ := i; obtain ⟨hi, hr⟩ := hC; refine JC_nm 60 [_, _] [_] ?_; refine JC_seq ?_; refine JC_sr ?_; refine JL_m ?_; refine JL_m ?_; refine JL_len sl22 rfl ?_; refine JL_lss rfl rfl ?_; refine JL_split (fun h13 => ?_) (fun h13 => ?_)
  · refine JL_du 60 [_, _] [_] ?_; refine JC_true rfl ?_; refine JC_skip ?_; refine JE_then ?_; refine JC_seq ?_; refine JC_block ?_; obtain ⟨f, t, he, hf, ht, _⟩ := h.at (i := i) (by omega)
    have hrl : r.length = n := by rw [← hr, nxt_len, List.length_replicate]
    refine JC_drawT mixed 11 [spV 16 [] _, spV 17 [] _, spV 18 [0, 1] _, spV 19 [2] _, spV 20 [3] _, spV 21 [] _, spV 22 [] _, spV 23 [5, 6] _, spV 24 [7] _, spV 25 [8] _, spV 26 [4] _] ⟨oM, oM, OblS_V (fun vals ex ψ => (by refine JL_normQ _ (_ :: ψ) rfl rfl ?_; refine JL_indexAddr i sl22 rfl rfl rfl (by omega) (by first | exact Reads.view am) (by rw [pcells_length]; omega) ?_; exact vz rfl)), OblS_V (fun vals ex ψ => (by refine JL_normQ _ (_ :: ψ) rfl rfl ?_; refine JL_fieldAddrE fo53_0 rfl (by first | exact Reads.view am) (by rw [pcells_length]; omega) ?_; exact vz rfl)), OblS_V (fun vals ex ψ => (by refine JL_normQ _ (_ :: ψ) rfl rfl ?_; refine JL_loadE ty3 rfl (by first | exact Reads.view am) (pcells_getE he (by omega) 0 _ rfl) ?_; exact vz rfl)), oM, oM, OblS_V (fun vals ex ψ => (by refine JL_normQ _ (_ :: ψ) rfl rfl ?_; refine JL_indexAddr i sl22 rfl rfl rfl (by omega) (by first | exact Reads.view am) (by rw [pcells_length]; omega) ?_; exact vz rfl)), OblS_V (fun vals ex ψ => (by refine JL_normQ _ (_ :: ψ) rfl rfl ?_; refine JL_fieldAddrE fo53_1 rfl (by first | exact Reads.view am) (by rw [pcells_length]; omega) ?_; exact vz rfl)), OblS_V (fun vals ex ψ => (by refine JL_normQ _ (_ :: ψ) rfl rfl ?_; refine JL_loadE ty3 rfl (by first | exact Reads.view am) (pcells_getE he (by omega) 1 _ rfl) ?_; exact vz rfl)), OblS_V (fun vals ex ψ => (by refine JL_normQ _ (_ :: ψ) rfl rfl ?_; refine JL_indexArr (f) aro103 rfl rfl rfl (by omega) ?_; exact vz rfl)), trivial⟩ (by kernel_rfl) (fun vals bs => ?_)
    refine JL_normL [_, _] ⟨60, [(16, _), (17, _), (18, _), (19, _), (20, _), (21, _), (22, _), (23, _), (24, _), (25, _), (26, _)], _⟩ [_, _] [_] rfl rfl rfl rfl ?_; refine JL_indexArr (t) aro102 rfl rfl rfl (by omega) ?_; refine JL_storeAt 1 ty4 rfl rfl rfl rfl rfl (by rw [tb_len]; omega) ?_; rw [show (tb r).set (0 + f * 24 + t * 1) (.bool true) = tb (r.set f (r.getD f 0 ||| 2 ^ t)) from tb_put (by omega) (by omega) (by omega)]; refine JL_nu 60 [_, _] [_] ?_; refine JE_block_normal ?_; refine JE_then ?_; refine JC_region ?_; refine JL_m ?_; refine JL_add_to rfl rfl (IntWalk.i64_in _ (by omega)) ?_; refine JL_assign rfl ?_; refine JL_nu 60 [_, _] [_] ?_; refine JE_nextS (i + 1, r.set f (r.getD f 0 ||| 2 ^ t)) (by kernel_rfl) ?_ ?_ (by kernel_rfl) ?_
    · exact ⟨by omega, by rw [nxt_at he, hr]⟩
    · first | omega | (dsimp only; omega)
    · exact subset_app subset_nil ss0
  · refine JL_du 60 [_, _] [_] ?_; refine JC_false rfl ?_; refine JC_exit ?_; refine JE_then_exit ?_; refine JE_nextS_exit ?_; refine JE_block_exit ?_; refine JE_then ?_; refine JC_seq ?_; refine JC_sr ?_; refine JL_assign rfl ?_; refine JL_du 60 [_, _] [_] ?_; refine JC_block ?_
    have hie : i = l.length := by omega
    rw [hie] at hr
    have hr0 : nextL n l = r := hr
    refine JC_loopS ((Nat) × (List Nat)) (fun (m, r1) => m ≤ n ∧ rchM n (nextL n l) m = r1) (fun (m, r1) => n - m) (fun u (m, r1) => [none, none, none, none, none, none, none, some (.int .i64 (m : Nat)), some (u 8), some (u 9), none, none, none, none, none, none, none, none, none, none, none, none, none, none, none, none, none, none, some (u 28), some (u 29), some (u 30), some (u 31), some (u 32), some (u 33), some (u 34), some (u 35), some (u 36), some (u 37), some (u 38), some (u 39), some (u 40), some (u 41), some (u 42), some (u 43), some (u 44), some (u 45), some (u 46), some (u 47), some (u 48), some (u 49), some (u 50), some (u 51), some (u 52), some (u 53), some (u 54), some (u 55), some (u 56), some (u 57), some (u 58), none]) (fun (m, r1) => [none, some (box b5 103 (tb r1))]) (fun (m, r1) => []) (0, r) (by kernel_rfl) ?_ (by kernel_rfl) ?_ ?_
    · exact ⟨Nat.zero_le _, hr0⟩
    · exact subset_nil
    intro u i hC; obtain ⟨m, r1⟩ := i; obtain ⟨hm, hr1⟩ := hC; refine JC_nm 60 [_, _] [_] ?_
    have hrl1 : r1.length = n := by rw [← hr1, rchM_len, hnl]
    have hrb1 : bnd n r1 := by rw [← hr1]; exact rchM_bnd hnb m
    refine JC_seq ?_; refine JC_sr ?_; refine JL_m ?_; refine JL_m ?_; refine JL_lss rfl rfl ?_; refine JL_split (fun h30 => ?_) (fun h30 => ?_)
    · refine JL_du 60 [_, _] [_] ?_; refine JC_true rfl ?_; refine JC_skip ?_; refine JE_then ?_; refine JC_seq ?_; refine JC_block ?_; refine JC_sr ?_; refine JL_assign rfl ?_; refine JL_du 60 [_, _] [_] ?_; refine JC_block ?_; refine JC_loopS ((Nat) × (List Nat)) (fun (i2, r2) => i2 ≤ n ∧ rchI m r1 i2 = r2) (fun (i2, r2) => n - i2) (fun u (i2, r2) => [none, none, none, none, none, none, none, none, some (.int .i64 (i2 : Nat)), some (u 9), none, none, none, none, none, none, none, none, none, none, none, none, none, none, none, none, none, none, none, none, none, none, none, some (u 33), some (u 34), some (u 35), some (u 36), some (u 37), some (u 38), some (u 39), some (u 40), some (u 41), some (u 42), some (u 43), some (u 44), some (u 45), some (u 46), some (u 47), some (u 48), some (u 49), some (u 50), some (u 51), some (u 52), some (u 53), some (u 54), some (u 55), some (u 56), some (u 57), some (u 58), none]) (fun (i2, r2) => [none, some (box b5 103 (tb r2))]) (fun (i2, r2) => []) (0, r1) (by kernel_rfl) ?_ (by kernel_rfl) ?_ ?_
      · exact ⟨Nat.zero_le _, rfl⟩
      · exact subset_nil
      intro u i hC; obtain ⟨i2, r2⟩ := i; obtain ⟨hi2, hr2⟩ := hC; refine JC_nm 60 [_, _] [_] ?_
      have hrl2 : r2.length = n := by rw [← hr2, rchI_len, hrl1]
      have hrb2 : bnd n r2 := by rw [← hr2]; exact rchI_bnd hrb1 i2
      refine JC_seq ?_; refine JC_sr ?_; refine JL_m ?_; refine JL_m ?_; refine JL_lss rfl rfl ?_; refine JL_split (fun h35 => ?_) (fun h35 => ?_)
      · refine JL_du 60 [_, _] [_] ?_; refine JC_true rfl ?_; refine JC_skip ?_; refine JE_then ?_; refine JC_seq ?_; refine JC_block ?_; refine JC_sr ?_; refine JL_assign rfl ?_; refine JL_du 60 [_, _] [_] ?_; refine JC_block ?_; refine JC_loopS ((Nat) × (List Nat)) (fun (j, r3) => j ≤ n ∧ midR m r2 i2 j = r3) (fun (j, r3) => n - j) (fun u (j, r3) => [none, none, none, none, none, none, none, none, none, some (.int .i64 (j : Nat)), none, none, none, none, none, none, none, none, none, none, none, none, none, none, none, none, none, none, none, none, none, none, none, none, none, none, none, none, some (u 38), some (u 39), some (u 40), some (u 41), some (u 42), some (u 43), some (u 44), some (u 45), some (u 46), some (u 47), some (u 48), some (u 49), some (u 50), some (u 51), some (u 52), some (u 53), some (u 54), some (u 55), some (u 56), some (u 57), some (u 58), none]) (fun (j, r3) => [none, some (box b5 103 (tb r3))]) (fun (j, r3) => []) (0, r2) (by kernel_rfl) ?_ (by kernel_rfl) ?_ ?_
        · exact ⟨Nat.zero_le _, midR_zero m r2 i2 (by omega)⟩
        · exact subset_nil
        intro u i hC; obtain ⟨j, r3⟩ := i; obtain ⟨hj, hr3⟩ := hC; refine JC_nm 60 [_, _] [_] ?_
        have hrl3 : r3.length = n := by rw [← hr3, midR_len, hrl2]
        refine JC_seq ?_; refine JC_sr ?_; refine JL_m ?_; refine JL_m ?_; refine JL_lss rfl rfl ?_; refine JL_split (fun h40 => ?_) (fun h40 => ?_)
        · refine JL_du 60 [_, _] [_] ?_; refine JC_true rfl ?_; refine JC_skip ?_; refine JE_then ?_; refine JC_seq ?_; refine JC_block ?_; refine JC_seq ?_
          rcases bb2 ((r3.getD i2 0).testBit m) ((r3.getD m 0).testBit j) with hA | ⟨hA, hB⟩ | ⟨hA, hB⟩
          · refine JC_region ?_; refine JL_m ?_; refine JL_m ?_; refine JL_indexArr (i2) aro103 rfl rfl rfl (by omega) ?_; refine JL_indexArr (m) aro102 rfl rfl rfl (by omega) ?_; refine JL_loadAt 1 ty4 rfl rfl (tb_at (by omega) (by omega) hA) ?_; refine JL_m ?_; refine JL_gn ?_; refine JL_gn ?_; refine JL_gn ?_; refine JL_gn ?_; refine JL_gn ?_; refine JL_pick_f rfl rfl ?_; refine JL_du 60 [_, _] [_] ?_; refine JC_false rfl ?_; refine JC_skip ?_; refine JE_block_normal ?_; refine JE_then ?_; refine JC_region ?_; refine JL_m ?_; refine JL_add_to rfl rfl (IntWalk.i64_in _ (by omega)) ?_; refine JL_assign rfl ?_; refine JL_nu 60 [_, _] [_] ?_; refine JE_nextS (j + 1, r3) (by kernel_rfl) ?_ ?_ (by kernel_rfl) ?_
            · exact ⟨by omega, mid_f hr3 (by omega) hA⟩
            · first | omega | (dsimp only; omega)
            · exact subset_app subset_nil ss0
          · refine JC_region ?_; refine JL_m ?_; refine JL_m ?_; refine JL_indexArr (i2) aro103 rfl rfl rfl (by omega) ?_; refine JL_indexArr (m) aro102 rfl rfl rfl (by omega) ?_; refine JL_loadAt 1 ty4 rfl rfl (tb_at (by omega) (by omega) hA) ?_; refine JL_m ?_; refine JL_gy ?_; refine JL_m ?_; refine JL_gy ?_; refine JL_m ?_; refine JL_gy ?_; refine JL_indexArr (m) aro103 rfl rfl rfl (by omega) ?_; refine JL_gy ?_; refine JL_indexArr (j) aro102 rfl rfl rfl (by omega) ?_; refine JL_gy ?_; refine JL_loadAt 1 ty4 rfl rfl (tb_at (by omega) (by omega) hB) ?_; refine JL_pick_t rfl rfl ?_; refine JL_du 60 [_, _] [_] ?_; refine JC_false rfl ?_; refine JC_skip ?_; refine JE_block_normal ?_; refine JE_then ?_; refine JC_region ?_; refine JL_m ?_; refine JL_add_to rfl rfl (IntWalk.i64_in _ (by omega)) ?_; refine JL_assign rfl ?_; refine JL_nu 60 [_, _] [_] ?_; refine JE_nextS (j + 1, r3) (by kernel_rfl) ?_ ?_ (by kernel_rfl) ?_
            · exact ⟨by omega, mid_g hr3 (by omega) hB⟩
            · first | omega | (dsimp only; omega)
            · exact subset_app subset_nil ss0
          · refine JC_region ?_; refine JL_m ?_; refine JL_m ?_; refine JL_indexArr (i2) aro103 rfl rfl rfl (by omega) ?_; refine JL_indexArr (m) aro102 rfl rfl rfl (by omega) ?_; refine JL_loadAt 1 ty4 rfl rfl (tb_at (by omega) (by omega) hA) ?_; refine JL_m ?_; refine JL_gy ?_; refine JL_m ?_; refine JL_gy ?_; refine JL_m ?_; refine JL_gy ?_; refine JL_indexArr (m) aro103 rfl rfl rfl (by omega) ?_; refine JL_gy ?_; refine JL_indexArr (j) aro102 rfl rfl rfl (by omega) ?_; refine JL_gy ?_; refine JL_loadAt 1 ty4 rfl rfl (tb_at (by omega) (by omega) hB) ?_; refine JL_pick_t rfl rfl ?_; refine JL_du 60 [_, _] [_] ?_; refine JC_true rfl ?_; refine JC_region ?_; refine JL_m ?_; refine JL_m ?_; refine JL_indexArr (i2) aro103 rfl rfl rfl (by omega) ?_; refine JL_indexArr (j) aro102 rfl rfl rfl (by omega) ?_; refine JL_storeAt 1 ty4 rfl rfl rfl rfl rfl (by rw [tb_len]; omega) ?_; rw [show (tb r3).set (0 + i2 * 24 + j * 1) (.bool true) = tb (r3.set i2 (r3.getD i2 0 ||| 2 ^ j)) from tb_put (by omega) (by omega) (by omega)]; refine JL_nu 60 [_, _] [_] ?_; refine JE_block_normal ?_; refine JE_then ?_; refine JC_region ?_; refine JL_m ?_
            refine JL_add_to rfl rfl (IntWalk.i64_in _ (by omega)) ?_; refine JL_assign rfl ?_; refine JL_nu 60 [_, _] [_] ?_; refine JE_nextS (j + 1, r3.set i2 (r3.getD i2 0 ||| 2 ^ j)) (by kernel_rfl) ?_ ?_ (by kernel_rfl) ?_
            · exact ⟨by omega, mid_t hr3 (by omega) hA hB⟩
            · first | omega | (dsimp only; omega)
            · exact subset_app subset_nil ss0
        · refine JL_du 60 [_, _] [_] ?_; refine JC_false rfl ?_; refine JC_exit ?_; refine JE_then_exit ?_; refine JE_nextS_exit ?_; refine JE_block_exit ?_; refine JE_block_normal ?_; refine JE_then ?_; refine JC_region ?_; refine JL_m ?_; refine JL_add_to rfl rfl (IntWalk.i64_in _ (by omega)) ?_; refine JL_assign rfl ?_; refine JL_nu 60 [_, _] [_] ?_; refine JE_nextS (i2 + 1, r3) (by kernel_rfl) ?_ ?_ (by kernel_rfl) ?_
          · exact ⟨by omega, mid_row hrb2 hr2 (by omega) hr3⟩
          · first | omega | (dsimp only; omega)
          · exact subset_app subset_nil ss0
      · refine JL_du 60 [_, _] [_] ?_; refine JC_false rfl ?_; refine JC_exit ?_; refine JE_then_exit ?_; refine JE_nextS_exit ?_; refine JE_block_exit ?_; refine JE_block_normal ?_; refine JE_then ?_; refine JC_region ?_; refine JL_m ?_; refine JL_add_to rfl rfl (IntWalk.i64_in _ (by omega)) ?_; refine JL_assign rfl ?_; refine JL_nu 60 [_, _] [_] ?_; refine JE_nextS (m + 1, r2) (by kernel_rfl) ?_ ?_ (by kernel_rfl) ?_
        · exact ⟨by omega, by rw [rchM, hr1, ← hr2, show i2 = n from by omega]⟩
        · first | omega | (dsimp only; omega)
        · exact subset_app subset_nil ss0
    · refine JL_du 60 [_, _] [_] ?_; refine JC_false rfl ?_; refine JC_exit ?_; refine JE_then_exit ?_; refine JE_nextS_exit ?_; refine JE_block_exit ?_; refine JE_then ?_; refine JC_sr ?_; refine JL_loadAll 1 (by rw [tb_len]; exact ty103) rfl rfl ?_; refine JL_storeAll 0 (by rw [tb_len]; exact ty103) rfl rfl (tb_one _) rfl (by rw [tb_len, tb_len]) ?_; refine JL_du 60 [_, _] [_] ?_; refine JC_ret ?_
      have hme : m = n := by omega
      rw [hme] at hr1; refine JE_ret (vs := [_]) [] Tryz.results81 ⟨RV.cell 0 (by rw [tb_len]; exact ty103) rfl rfl (NthL_all _), rfl⟩ ?_ ?_
      · rw [show reachL n l = r1 from hr1]; exact ⟨rfl, rfl⟩
      · exact all_nil

set_option maxHeartbeats 1000000 in
theorem racyc_con {ad : Option Addr} {c : Nat} {l : List Pr} {n : Int} (hln : l.length ≤ 1000000) :
    ConF Tryz.prog 54 [.int .i64 n, .slice ad l.length c] [vCells ad (pcells l)]
      (fun v φo => v = .bool (decide (cycC n l)) ∧ φo = []) := by
  refine ConF_of Tryz.func54 rfl 24 _ rfl rfl ?_; intro w0; refine JC_norm ⟨24, [], [_, _, _, _, _, _, _, _, _, _, _, _, _, _, _, _, _, _, _, _, _, _, _, _]⟩ [] [_] rfl rfl rfl ?_; refine JC_sr ?_; refine JL_assign rfl ?_; refine JL_du 24 [] [_] ?_; refine JC_seq ?_; refine JC_sr ?_; refine JL_m ?_; refine JL_m ?_; refine JL_callF' (Asks.cons (holds_of_mem am) Asks.nil) (rval_con hln) rfl ca53 ⟨rfl, rfl, rfl⟩ ?_; rintro _ _ ⟨rfl, rfl⟩; refine JL_split (fun h9 => ?_) (fun h9 => ?_)
  · refine JL_not rfl ?_; rw [Bool.not_true]; refine JL_du 24 [] [_] ?_; refine JC_false rfl ?_; refine JC_skip ?_; refine JE_then ?_; refine JC_seq ?_; obtain ⟨m, rfl⟩ : ∃ m : Nat, n = (m : Int) := ⟨n.toNat, by have := h9.1.1; omega⟩
    have hm24 : m ≤ 24 := by have := h9.1; omega
    have hrl := reachL_len m l
    have hrb := reachL_bnd h9
    refine JC_region ?_; refine JL_m ?_; refine JL_m ?_; refine JL_callF' (Asks.cons (holds_of_mem am) Asks.nil) (table_con h9 hln) rfl ca81 ⟨rfl, rfl, rfl⟩ ?_; rintro _ _ ⟨rfl, rfl⟩; refine JL_alloc z103 (fun b5 => ?_); refine JL_storeAll 0 (by rw [tb_len]; exact ty103) rfl rfl (tb_one _) rfl (by rw [List.length_replicate, tb_len]) ?_; refine JL_du 24 [_] [_] ?_; refine JC_seq ?_; refine JC_sr ?_; refine JL_assign rfl ?_; refine JL_du 24 [_] [_] ?_; refine JC_block ?_; refine JC_loopS ((Nat)) (fun (i : Nat) => i ≤ m ∧ ∀ j, j < i → ((reachL m l).getD j 0).testBit j = false) (fun (i : Nat) => m - i) (fun u (i : Nat) => [none, none, none, none, some (u 4), none, some (.int .i64 (i : Nat)), none, none, none, none, none, none, none, some (u 14), some (u 15), some (u 16), some (u 17), some (u 18), some (u 19), some (u 20), some (u 21), some (u 22), some (u 23)]) (fun (i : Nat) => [none]) (fun (i : Nat) => []) (0) (by kernel_rfl) ?_ (by kernel_rfl) ?_ ?_
    · exact ⟨Nat.zero_le _, fun j hj => absurd hj (Nat.not_lt_zero _)⟩
    · exact subset_nil
    intro u i hC; obtain ⟨hi, hj⟩ := hC; refine JC_nm 24 [_] [_] ?_; refine JC_seq ?_; refine JC_sr ?_; refine JL_m ?_; refine JL_m ?_; refine JL_lss rfl rfl ?_; refine JL_split (fun h16 => ?_) (fun h16 => ?_)
    · refine JL_du 24 [_] [_] ?_; refine JC_true rfl ?_; refine JC_skip ?_; refine JE_then ?_; refine JC_seq ?_; refine JC_block ?_; refine JC_seq ?_
      rcases hA : ((reachL m l).getD i 0).testBit i with _ | _
      · refine JC_region ?_; refine JL_m ?_; refine JL_m ?_; refine JL_indexArr (i) aro103 rfl rfl rfl (by omega) ?_; refine JL_indexArr (i) aro102 rfl rfl rfl (by omega) ?_; refine JL_loadAt 0 ty4 rfl rfl (tb_at (by omega) (by omega) hA) ?_; refine JL_du 24 [_] [_] ?_; refine JC_false rfl ?_; refine JC_skip ?_; refine JE_block_normal ?_; refine JE_then ?_; refine JC_region ?_; refine JL_m ?_; refine JL_add_to rfl rfl (IntWalk.i64_in _ (by omega)) ?_; refine JL_assign rfl ?_; refine JL_nu 24 [_] [_] ?_; refine JE_nextS (i + 1) (by kernel_rfl) ?_ ?_ (by kernel_rfl) ?_
        · exact ⟨by omega, fun j hj2 => by
          by_cases e : j = i
          · subst e; exact hA
          · exact hj j (by omega)⟩
        · first | omega | (dsimp only; omega)
        · exact subset_app subset_nil ss0
      · refine JC_region ?_; refine JL_m ?_; refine JL_m ?_; refine JL_indexArr (i) aro103 rfl rfl rfl (by omega) ?_; refine JL_indexArr (i) aro102 rfl rfl rfl (by omega) ?_; refine JL_loadAt 0 ty4 rfl rfl (tb_at (by omega) (by omega) hA) ?_; refine JL_du 24 [_] [_] ?_; refine JC_true rfl ?_; refine JC_sr ?_; refine JL_assign rfl ?_; refine JL_du 24 [_] [_] ?_; refine JC_ret ?_; refine JE_block_ret ?_; refine JE_then_ret ?_; refine JE_nextS_ret ?_; refine JE_block_ret ?_; refine JE_then_ret ?_; refine JE_ret (vs := [_]) [] Tryz.results54 ⟨rfl, rfl⟩ ?_ ?_
        · rw [decide_eq_false (p := cycC (m : Int) l) (fun h => by have := h.2 i (by rw [Int.toNat_natCast, hrl]; omega); rw [Int.toNat_natCast, hA] at this; cases this)]; exact ⟨rfl, rfl⟩
        · exact all_nil
    · refine JL_du 24 [_] [_] ?_; refine JC_false rfl ?_; refine JC_exit ?_; refine JE_then_exit ?_; refine JE_nextS_exit ?_; refine JE_block_exit ?_; refine JE_then ?_; refine JC_sr ?_; refine JL_assign rfl ?_; refine JL_du 24 [_] [_] ?_; refine JC_ret ?_; refine JE_ret (vs := [_]) [] Tryz.results54 ⟨rfl, rfl⟩ ?_ ?_
      · rw [decide_eq_true (p := cycC (m : Int) l) ⟨h9, fun j h => hj j (by rw [Int.toNat_natCast] at h; omega)⟩]; exact ⟨rfl, rfl⟩
      · exact all_nil
  · refine JL_not rfl ?_; rw [Bool.not_false]; refine JL_du 24 [] [_] ?_; refine JC_true rfl ?_; refine JC_sr ?_; refine JL_assign rfl ?_; refine JL_du 24 [] [_] ?_; refine JC_ret ?_; refine JE_then_ret ?_; refine JE_ret (vs := [_]) [] Tryz.results54 ⟨rfl, rfl⟩ ?_ ?_
    · rw [decide_eq_false (p := cycC n l) (fun h => h9 h.1)]; exact ⟨rfl, rfl⟩
    · exact all_nil

theorem rchk_con {ad : Option Addr} {c : Nat} {l : List Pr} {n : Int} (hln : l.length ≤ 1000000) :
    ConF Tryz.prog 24 [.int .i64 n, .slice ad l.length c] [vCells ad (pcells l)]
      (fun v φo => v = .int .i64 (seqE n l) ∧ φo = []) := by
  refine ConF_of Tryz.func24 rfl 15 _ rfl rfl ?_; intro w0; refine JC_norm ⟨15, [], [_, _, _, _, _, _, _, _, _, _, _, _, _, _, _]⟩ [] [_] rfl rfl rfl ?_; refine JC_sr ?_; refine JL_assign rfl ?_; refine JL_du 15 [] [_] ?_; refine JC_seq ?_; refine JC_sr ?_; refine JL_m ?_; refine JL_m ?_; refine JL_callF' (Asks.cons (holds_of_mem am) Asks.nil) (rval_con hln) rfl ca53 ⟨rfl, rfl, rfl⟩ ?_; rintro _ _ ⟨rfl, rfl⟩; refine JL_split (fun h7 => ?_) (fun h7 => ?_)
  · refine JL_not rfl ?_; rw [Bool.not_true]; refine JL_du 15 [] [_] ?_; refine JC_false rfl ?_; refine JC_skip ?_; refine JE_then ?_; refine JC_seq ?_; refine JC_sr ?_; refine JL_m ?_; refine JL_gtr rfl rfl ?_; refine JL_split (fun h10 => ?_) (fun h10 => ?_)
    · refine JL_du 15 [] [_] ?_; refine JC_true rfl ?_; refine JC_sr ?_; refine JL_assign rfl ?_; refine JL_du 15 [] [_] ?_; refine JC_ret ?_; refine JE_then_ret ?_; refine JE_ret (vs := [_]) [] Tryz.results24 ⟨rfl, rfl⟩ ?_ ?_
      · rw [seqE_full h7 h10]; exact ⟨rfl, rfl⟩
      · exact all_nil
    · refine JL_du 15 [] [_] ?_; refine JC_false rfl ?_; refine JC_skip ?_; refine JE_then ?_; refine JC_seq ?_; refine JC_sr ?_; refine JL_m ?_; refine JL_m ?_; refine JL_callF' (Asks.cons (holds_of_mem am) Asks.nil) (racyc_con hln) rfl ca54 ⟨rfl, rfl, rfl⟩ ?_; rintro _ _ ⟨rfl, rfl⟩; refine JL_split (fun h13 => ?_) (fun h13 => ?_)
      · refine JL_not rfl ?_; rw [Bool.not_true]; refine JL_du 15 [] [_] ?_; refine JC_false rfl ?_; refine JC_skip ?_; refine JE_then ?_; refine JC_sr ?_; refine JL_assign rfl ?_; refine JL_du 15 [] [_] ?_; refine JC_ret ?_; refine JE_ret (vs := [_]) [] Tryz.results24 ⟨rfl, rfl⟩ ?_ ?_
        · rw [seqE_ok h7 h10 h13]; exact ⟨rfl, rfl⟩
        · exact all_nil
      · refine JL_not rfl ?_; rw [Bool.not_false]; refine JL_du 15 [] [_] ?_; refine JC_true rfl ?_; refine JC_sr ?_; refine JL_assign rfl ?_; refine JL_du 15 [] [_] ?_; refine JC_ret ?_; refine JE_then_ret ?_; refine JE_ret (vs := [_]) [] Tryz.results24 ⟨rfl, rfl⟩ ?_ ?_
        · rw [seqE_cyc h7 h10 h13]; exact ⟨rfl, rfl⟩
        · exact all_nil
  · refine JL_not rfl ?_; rw [Bool.not_false]; refine JL_du 15 [] [_] ?_; refine JC_true rfl ?_; refine JC_sr ?_; refine JL_assign rfl ?_; refine JL_du 15 [] [_] ?_; refine JC_ret ?_; refine JE_then_ret ?_; refine JE_ret (vs := [_]) [] Tryz.results24 ⟨rfl, rfl⟩ ?_ ?_
    · rw [seqE_dg h7]; exact ⟨rfl, rfl⟩
    · exact all_nil

theorem schk_con {ad : Option Addr} {c : Nat} {l : List Pr} {n : Int} (hln : l.length ≤ 1000000) :
    ConF Tryz.prog 92 [.int .i64 n, .slice ad l.length c] [vCells ad (pcells l)]
      (fun v φo => v = .int .i64 (seqE n l) ∧ φo = []) := by
  refine ConF_of Tryz.func92 rfl 18 _ rfl rfl ?_; intro w0; refine JC_norm ⟨18, [], [_, _, _, _, _, _, _, _, _, _, _, _, _, _, _, _, _, _]⟩ [] [_] rfl rfl rfl ?_; refine JC_sr ?_; refine JL_assign rfl ?_; refine JL_du 18 [] [_] ?_; refine JC_seq ?_; refine JC_block ?_; refine JC_sr ?_; refine JL_m ?_; refine JL_m ?_; refine JL_callF' (Asks.cons (holds_of_mem am) Asks.nil) (pval_con hln) rfl ca55 ⟨rfl, rfl, rfl⟩ ?_; rintro _ _ ⟨rfl, rfl⟩; refine JL_split (fun h8 => ?_) (fun h8 => ?_)
  · refine JL_not rfl ?_; rw [Bool.not_true]; refine JL_assign rfl ?_; refine JL_du 18 [] [_] ?_; refine JC_false rfl ?_; refine JC_sr ?_; refine JL_m ?_; refine JL_gtr rfl rfl ?_; refine JL_split (fun h12 => ?_) (fun h12 => ?_)
    · refine JL_assign rfl ?_; refine JL_du 18 [] [_] ?_; refine JC_true rfl ?_; refine JC_sr ?_; refine JL_assign rfl ?_; refine JL_du 18 [] [_] ?_; refine JC_ret ?_; refine JE_block_ret ?_; refine JE_then_ret ?_; refine JE_ret (vs := [_]) [] Tryz.results92 ⟨rfl, rfl⟩ ?_ ?_
      · rw [seqE_full h8 h12]; exact ⟨rfl, rfl⟩
      · exact all_nil
    · refine JL_assign rfl ?_; refine JL_du 18 [] [_] ?_; refine JC_false rfl ?_; refine JC_sr ?_; refine JL_m ?_; refine JL_m ?_; refine JL_callF' (Asks.cons (holds_of_mem am) Asks.nil) (pcyc_con hln) rfl ca119 ⟨rfl, rfl, rfl⟩ ?_; rintro _ _ ⟨rfl, rfl⟩; refine JL_split (fun h16 => ?_) (fun h16 => ?_)
      · refine JL_not rfl ?_; rw [Bool.not_true]; refine JL_assign rfl ?_; refine JL_du 18 [] [_] ?_; refine JC_false rfl ?_; refine JC_skip ?_; refine JE_block_normal ?_; refine JE_then ?_; refine JC_sr ?_; refine JL_assign rfl ?_; refine JL_du 18 [] [_] ?_; refine JC_ret ?_; refine JE_ret (vs := [_]) [] Tryz.results92 ⟨rfl, rfl⟩ ?_ ?_
        · rw [seqE_ok h8 h12 h16]; exact ⟨rfl, rfl⟩
        · exact all_nil
      · refine JL_not rfl ?_; rw [Bool.not_false]; refine JL_assign rfl ?_; refine JL_du 18 [] [_] ?_; refine JC_true rfl ?_; refine JC_sr ?_; refine JL_assign rfl ?_; refine JL_du 18 [] [_] ?_; refine JC_ret ?_; refine JE_block_ret ?_; refine JE_then_ret ?_; refine JE_ret (vs := [_]) [] Tryz.results92 ⟨rfl, rfl⟩ ?_ ?_
        · rw [seqE_cyc h8 h12 h16]; exact ⟨rfl, rfl⟩
        · exact all_nil
  · refine JL_not rfl ?_; rw [Bool.not_false]; refine JL_assign rfl ?_; refine JL_du 18 [] [_] ?_; refine JC_true rfl ?_; refine JC_sr ?_; refine JL_assign rfl ?_; refine JL_du 18 [] [_] ?_; refine JC_ret ?_; refine JE_block_ret ?_; refine JE_then_ret ?_; refine JE_ret (vs := [_]) [] Tryz.results92 ⟨rfl, rfl⟩ ?_ ?_
    · rw [seqE_dg h8]; exact ⟨rfl, rfl⟩
    · exact all_nil

theorem ready_con {ad1 : Option Addr} {c1 n s b : Nat} {r : List Nat} {w : Value} (hrl : r.length = n) (hb : b < n) (hn : n ≤ 10) (hr : bnd n r) (hs : s < 1024) :
    ConF Tryz.prog 94 [.agg #[.int .i64 (n : Nat), .slice ad1 n c1, w], .int .i64 (s : Nat), .int .i64 (b : Nat)] [vCells ad1 (i64s (nI r))]
      (fun v φo => v = .bool (rdy r s b) ∧ φo = []) := by
  have hrb : r.getD b 0 < 9223372036854775808 := Nat.lt_of_lt_of_le (hr b) (Nat.le_trans (Nat.pow_le_pow_right (n := 2) (by decide) hn) (by decide))
  refine ConF_of Tryz.func94 rfl 22 _ rfl rfl ?_; intro w0; refine JC_norm ⟨22, [], [_, _, _, _, _, _, _, _, _, _, _, _, _, _, _, _, _, _, _, _, _, _]⟩ [] [_] rfl rfl rfl ?_; refine JC_sr ?_; refine JL_box rfl rfl (fun b3 => ?_); refine JL_assign rfl ?_; refine JL_du 22 [box _ _ [_, _, _]] [_] ?_; refine JC_sr ?_; refine JL_m ?_; refine JL_m ?_; refine JL_shr_to (c := ((s >>> b : Nat) : Int)) rfl rfl (by omega) (shr_nat .i64 s b (by simp only [IntKind.bits]; omega)) ?_; refine JL_and_to (c := ((s >>> b &&& 1 : Nat) : Int)) rfl rfl (i64_and_nat (s >>> b) 1 (Nat.lt_of_le_of_lt (Nat.shiftRight_le s b) (by omega)) (by decide)) ?_; refine JL_eql rfl rfl ?_; refine JL_split (fun h11 => ?_) (fun h11 => ?_)
  · refine JL_m ?_; refine JL_gy ?_; refine JL_fieldAddr fo114_1 rfl ?_; refine JL_gy ?_; refine JL_load 0 ty57 rfl rfl rfl ?_; refine JL_gy ?_; refine JL_m ?_; refine JL_gy ?_; refine JL_idx b sl57 rfl rfl rfl (by omega) (by first | exact Reads.view am) (by rw [i64s_length, nI_len]; omega) ?_; refine JL_gy ?_; refine JL_loadE ty3 rfl (by first | exact Reads.view am) (nI_get (by omega)) ?_; refine JL_gy ?_; refine JL_m ?_; refine JL_gy ?_; refine JL_andNot_to (c := ((bdiff (r.getD b 0) s : Nat) : Int)) rfl rfl (i64_andNot_nat (r.getD b 0) s hrb (by omega)) ?_; refine JL_gy ?_; refine JL_eql rfl rfl ?_; refine JL_pick_t rfl rfl ?_; refine JL_assign rfl ?_; refine JL_du 22 [box _ _ [_, _, _]] [_] ?_; refine JC_ret ?_; refine JE_ret (vs := [_]) [] Tryz.results94 ⟨rfl, rfl⟩ ?_ ?_
    · rw [rdy_t h11]; exact ⟨rfl, rfl⟩
    · exact all_nil
  · refine JL_m ?_; refine JL_gn ?_; refine JL_gn ?_; refine JL_gn ?_; refine JL_gn ?_; refine JL_gn ?_; refine JL_gn ?_; refine JL_gn ?_; refine JL_gn ?_; refine JL_pick_f rfl rfl ?_; refine JL_assign rfl ?_; refine JL_du 22 [box _ _ [_, _, _]] [_] ?_; refine JC_ret ?_; refine JE_ret (vs := [_]) [] Tryz.results94 ⟨rfl, rfl⟩ ?_ ?_
    · rw [rdy_f h11]; exact ⟨rfl, rfl⟩
    · exact all_nil

end Go.Fw.K
