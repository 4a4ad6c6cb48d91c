/- Walks through functions of the given program: each meets its contract. (Printed by a program of this repo.) -/
import Derived.Test.YtjkbamfcoiikmaaGreatDoorM22
import Derived.Test.YtjkbamfcoiikmaaGreatDoorPqZa
import Derived.Test.YtjkbamfcoiikmaaGreatDoorProg
namespace Go.Fw.MG
open Go Go.RowKit Go.Proofs Go.Nat9 Go.Fw
attribute [local irreducible] JC JL JE
theorem ca116 : callable Tryz.prog 116 = true := by kernel_rfl
theorem ca117 : callable Tryz.prog 117 = true := by kernel_rfl
theorem ca150 : callable Tryz.prog 150 = true := by kernel_rfl
theorem ca49 : callable Tryz.prog 49 = true := by kernel_rfl
theorem ca50 : callable Tryz.prog 50 = true := by kernel_rfl
theorem ca51 : callable Tryz.prog 51 = true := by kernel_rfl
theorem ca57 : callable Tryz.prog 57 = true := by kernel_rfl
theorem ca94 : callable Tryz.prog 94 = true := by kernel_rfl
theorem ca95 : callable Tryz.prog 95 = true := by kernel_rfl
theorem sl22 : slOf Tryz.prog 22 = some (32, 1, 24, [.slice none 0 0]) := by kernel_rfl
theorem sl32 : slOf Tryz.prog 32 = some (3, 1, 8, [.int .i64 0]) := by kernel_rfl
theorem ty3 : tyOf Tryz.prog 3 = some (false, 1) := by kernel_rfl
theorem ty32 : tyOf Tryz.prog 32 = some (false, 1) := by kernel_rfl
end Go.Fw.MG
namespace Go.Fw.K
open Go Go.RowKit Go.Proofs Go.Nat9 Go.Fw Go.Fw.MG
attribute [local irreducible] JC JL JE

open Go.Fw.Pq
set_option maxHeartbeats 2000000 in
theorem cval_con {n : Nat} (hn7 : n ≤ 7) {adw : Option Addr} {cw : Nat} {l : List Rw} (hlw : l.length ≤ 16) (hrw : ∀ r ∈ l, r.L.length ≤ 1000000) :
    ConF Tryz.prog 95 [.int .i64 (n : Nat), .slice adw l.length cw] [vCells adw (rws l), vRws l]
      (fun v φo => v = .bool (decide (valR n l)) ∧ φo = []) := by
  have _ := hrw
  refine ConF_of Tryz.func95 rfl 55 _ rfl rfl ?_; intro w0; refine JC_norm ⟨55, [], [_, _, _, _, _, _, _, _, _, _, _, _, _, _, _, _, _, _, _, _, _, _, _, _, _, _, _, _, _, _, _, _, _, _, _, _, _, _, _, _, _, _, _, _, _, _, _, _, _, _, _, _, _, _, _]⟩ [] [_, _] rfl rfl rfl ?_; refine JC_sr ?_; refine JL_assign rfl ?_; refine JL_du 55 [] [_, _] ?_; refine JC_seq ?_; refine JC_sr ?_; refine JL_m ?_; refine JL_lss rfl rfl ?_; refine JL_split (fun h10 => ?_) (fun h10 => ?_)
  · exact absurd h10 (by omega)
  · refine JL_m ?_; refine JL_gy ?_; refine JL_m ?_; refine JL_gy ?_; refine JL_gtr rfl rfl ?_; refine JL_split (fun h13 => ?_) (fun h13 => ?_)
    · exact absurd h13 (by omega)
    · refine JL_pick_f rfl rfl ?_; refine JL_m ?_; refine JL_gy ?_; refine JL_m ?_; refine JL_gy ?_; refine JL_len sl22 rfl ?_; refine JL_gy ?_; refine JL_gtr rfl rfl ?_; refine JL_split (fun h18 => ?_) (fun h18 => ?_)
      · exact absurd h18 (by omega)
      · refine JL_pick_f rfl rfl ?_; refine JL_du 55 [] [_, _] ?_; refine JC_false rfl ?_; refine JC_skip ?_; refine JE_then ?_; refine JC_seq ?_; refine JC_sr ?_; refine JL_m ?_; refine JL_len sl22 rfl ?_; refine JL_m ?_; refine JL_du 55 [] [_, _] ?_; refine JC_block ?_; refine JC_loopS ((Nat)) (fun (k : Nat) => k ≤ l.length ∧ ∀ j, j < k → ascR (l.getD j dR).L n) (fun (k : Nat) => l.length - k) (fun u (k : Nat) => [none, none, none, none, some (u 4), none, some (u 6), some (u 7), some (u 8), none, none, none, none, none, none, none, none, none, none, none, none, none, some (.int .i64 (k : Nat)), some (u 23), some (u 24), some (u 25), some (u 26), some (u 27), some (u 28), some (u 29), some (u 30), some (u 31), some (u 32), some (u 33), some (u 34), some (u 35), some (u 36), some (u 37), some (u 38), some (u 39), some (u 40), some (u 41), some (u 42), some (u 43), some (u 44), some (u 45), some (u 46), some (u 47), some (u 48), some (u 49), some (u 50), some (u 51), some (u 52), some (u 53), some (u 54)]) (fun (k : Nat) => []) (fun (k : Nat) => []) (0) (by kernel_rfl) ?_ (by kernel_rfl) ?_ ?_
        · exact ⟨Nat.zero_le _, fun j hj => absurd hj (Nat.not_lt_zero _)⟩
        · exact subset_nil
        intro u k hC; obtain ⟨hk, hg⟩ := hC; refine JC_nm 55 [] [_, _] ?_; refine JC_sr ?_; refine JL_lss rfl rfl ?_; refine JL_split (fun h23 => ?_) (fun h23 => ?_)
        · refine JL_du 55 [] [_, _] ?_; refine JC_seq ?_; refine JC_true rfl ?_; refine JC_skip ?_; refine JE_then ?_; refine JC_seq ?_; refine JC_block ?_; refine JC_seq ?_
          have hkm := rw_mem (l := l) (i := k) (by omega)
          refine JC_rwGet (f := false) (l.getD k dR) am hkm ?_; refine JC_region ?_; refine JL_idx k sl22 rfl rfl (by omega) (by omega) (by first | exact Reads.view am) (by rw [rws_length]; omega) ?_; refine JL_loadE ty32 rfl (by first | exact Reads.view am) (rws_get (by omega)) ?_; refine JL_assign rfl ?_; refine JL_du 55 [] [_, _, _] ?_; refine JC_seq ?_
          have hrl := hrw _ hkm
          refine JC_region ?_; refine JL_m ?_; refine JL_len sl32 rfl ?_; refine JL_m ?_; refine JL_du 55 [] [_, _, _] ?_; refine JC_block ?_; refine JC_loopS ((Nat)) (fun (i : Nat) => i ≤ (l.getD k dR).L.length ∧ ∀ j, j < i → okA (l.getD k dR).L n j) (fun (i : Nat) => (l.getD k dR).L.length - i) (fun u (i : Nat) => [none, none, none, none, some (u 4), none, none, some (u 7), some (u 8), none, none, none, none, none, none, none, none, none, none, none, none, none, none, none, none, none, none, none, some (.int .i64 (i : Nat)), some (u 29), some (u 30), some (u 31), some (u 32), some (u 33), some (u 34), some (u 35), some (u 36), some (u 37), some (u 38), some (u 39), some (u 40), some (u 41), some (u 42), some (u 43), some (u 44), some (u 45), some (u 46), some (u 47), some (u 48), some (u 49), some (u 50), some (u 51), some (u 52), some (u 53), none]) (fun (i : Nat) => []) (fun (i : Nat) => []) (0) (by kernel_rfl) ?_ (by kernel_rfl) ?_ ?_
          · exact ⟨Nat.zero_le _, fun j hj => absurd hj (Nat.not_lt_zero _)⟩
          · exact subset_nil
          intro u i hC; obtain ⟨hi, ho⟩ := hC; refine JC_nm 55 [] [_, _, _] ?_; refine JC_sr ?_; refine JL_lss rfl rfl ?_; refine JL_split (fun h29 => ?_) (fun h29 => ?_)
          · refine JL_du 55 [] [_, _, _] ?_; refine JC_seq ?_; refine JC_true rfl ?_; refine JC_skip ?_; refine JE_then ?_; refine JC_seq ?_; refine JC_block ?_; refine JC_sr ?_; refine JL_m ?_; refine JL_idx i sl32 rfl rfl rfl (by omega) (by first | exact Reads.view am) (by first | (rw [u32s_length]; omega) | (rw [i64s_length]; omega)) ?_; refine JL_loadE ty3 rfl (by first | exact Reads.view am) (i64s_get (by omega)) ?_; refine JL_assign rfl ?_; refine JL_assign rfl ?_; refine JL_du 55 [] [_, _, _] ?_; refine JC_sr ?_; refine JL_m ?_; refine JL_lss rfl rfl ?_; refine JL_split (fun h34 => ?_) (fun h34 => ?_)
            · refine JL_m ?_; refine JL_gn ?_; refine JL_gn ?_; refine JL_gn ?_; refine JL_pick_t rfl rfl ?_; refine JL_m ?_; refine JL_gn ?_; refine JL_gn ?_; refine JL_gn ?_; refine JL_guard_un rfl rfl ?_; refine JL_guard_un rfl rfl ?_; refine JL_guard_un rfl rfl ?_; refine JL_guard_un rfl rfl ?_; refine JL_guard_un rfl rfl ?_; refine JL_guard_un rfl rfl ?_; refine JL_guard_un rfl rfl ?_; refine JL_gn ?_; refine JL_pick_t rfl rfl ?_; refine JL_du 55 [] [_, _, _] ?_; refine JC_true rfl ?_; refine JC_sr ?_; refine JL_assign rfl ?_; refine JL_du 55 [] [_, _, _] ?_; refine JC_ret ?_; refine JE_block_ret ?_; refine JE_then_ret ?_; refine JE_nextS_ret ?_; refine JE_block_ret ?_; refine JE_block_ret ?_; refine JE_then_ret ?_; refine JE_nextS_ret ?_; refine JE_block_ret ?_; refine JE_then_ret ?_; refine JE_ret (vs := [_]) [] Tryz.results95 ⟨rfl, rfl⟩ ?_ ?_
              · rw [decide_eq_false (p := valR n l) (valR_no (k := k) (i := i) (by omega) (by omega) (by unfold okA; omega))]; exact ⟨rfl, rfl⟩
              · exact all_nil
            · refine JL_m ?_; refine JL_gy ?_; refine JL_m ?_; refine JL_gy ?_; refine JL_m ?_; refine JL_gy ?_; refine JL_geq rfl rfl ?_; refine JL_split (fun h38 => ?_) (fun h38 => ?_)
              · refine JL_pick_f rfl rfl ?_; refine JL_m ?_; refine JL_gn ?_; refine JL_gn ?_; refine JL_gn ?_; refine JL_guard_un rfl rfl ?_; refine JL_guard_un rfl rfl ?_; refine JL_guard_un rfl rfl ?_; refine JL_guard_un rfl rfl ?_; refine JL_guard_un rfl rfl ?_; refine JL_guard_un rfl rfl ?_; refine JL_guard_un rfl rfl ?_; refine JL_gn ?_; refine JL_pick_t rfl rfl ?_; refine JL_du 55 [] [_, _, _] ?_; refine JC_true rfl ?_; refine JC_sr ?_; refine JL_assign rfl ?_; refine JL_du 55 [] [_, _, _] ?_; refine JC_ret ?_; refine JE_block_ret ?_; refine JE_then_ret ?_; refine JE_nextS_ret ?_; refine JE_block_ret ?_; refine JE_block_ret ?_; refine JE_then_ret ?_; refine JE_nextS_ret ?_; refine JE_block_ret ?_; refine JE_then_ret ?_; refine JE_ret (vs := [_]) [] Tryz.results95 ⟨rfl, rfl⟩ ?_ ?_
                · rw [decide_eq_false (p := valR n l) (valR_no (k := k) (i := i) (by omega) (by omega) (by unfold okA; omega))]; exact ⟨rfl, rfl⟩
                · exact all_nil
              · refine JL_pick_f rfl rfl ?_; refine JL_m ?_; refine JL_gy ?_; refine JL_m ?_; refine JL_gy ?_; refine JL_gtr rfl rfl ?_; refine JL_split (fun h42 => ?_) (fun h42 => ?_)
                · refine JL_gy ?_; refine JL_m ?_; refine JL_gy ?_; refine JL_m ?_; refine JL_gy ?_; refine JL_m ?_; refine JL_gy ?_; refine JL_m ?_; refine JL_gy ?_; refine JL_sub_to rfl rfl (IntWalk.i64_in _ (by omega)) ?_; refine JL_gy ?_; refine JL_idx (i - 1) sl32 rfl rfl (by omega) (by omega) (by first | exact Reads.view am) (by first | (rw [u32s_length]; omega) | (rw [i64s_length]; omega)) ?_; refine JL_gy ?_; refine JL_loadE ty3 rfl (by first | exact Reads.view am) (i64s_get (by omega)) ?_; refine JL_gy ?_; refine JL_leq rfl rfl ?_; refine JL_split (fun h50 => ?_) (fun h50 => ?_)
                  · refine JL_gy ?_; refine JL_pick_t rfl rfl ?_; refine JL_pick_f rfl rfl ?_; refine JL_du 55 [] [_, _, _] ?_; refine JC_true rfl ?_; refine JC_sr ?_; refine JL_assign rfl ?_; refine JL_du 55 [] [_, _, _] ?_; refine JC_ret ?_; refine JE_block_ret ?_; refine JE_then_ret ?_; refine JE_nextS_ret ?_; refine JE_block_ret ?_; refine JE_block_ret ?_; refine JE_then_ret ?_; refine JE_nextS_ret ?_; refine JE_block_ret ?_; refine JE_then_ret ?_; refine JE_ret (vs := [_]) [] Tryz.results95 ⟨rfl, rfl⟩ ?_ ?_
                    · rw [decide_eq_false (p := valR n l) (valR_no (k := k) (i := i) (by omega) (by omega) (by unfold okA; omega))]; exact ⟨rfl, rfl⟩
                    · exact all_nil
                  · refine JL_gy ?_; refine JL_pick_t rfl rfl ?_; refine JL_pick_f rfl rfl ?_; refine JL_du 55 [] [_, _, _] ?_; refine JC_false rfl ?_; refine JC_skip ?_; refine JE_block_normal ?_; refine JE_then ?_; refine JC_region ?_; refine JL_add_to rfl rfl (IntWalk.i64_in _ (by omega)) ?_; refine JL_m ?_; refine JL_nu 55 [] [_, _, _] ?_; refine JE_nextS (i + 1) (by kernel_rfl) ?_ ?_ (by kernel_rfl) ?_
                    · exact ⟨by omega, ascR_step ho (by unfold okA; omega)⟩
                    · first | omega | (dsimp only; omega)
                    · exact subset_app subset_nil ss0
                · refine JL_gy ?_; refine JL_m ?_; refine JL_gn ?_; refine JL_gn ?_; refine JL_gn ?_; refine JL_gn ?_; refine JL_gn ?_; refine JL_gn ?_; refine JL_gn ?_; refine JL_gy ?_; refine JL_pick_f rfl rfl ?_; refine JL_pick_f rfl rfl ?_; refine JL_du 55 [] [_, _, _] ?_; refine JC_false rfl ?_; refine JC_skip ?_; refine JE_block_normal ?_; refine JE_then ?_; refine JC_region ?_; refine JL_add_to rfl rfl (IntWalk.i64_in _ (by omega)) ?_; refine JL_m ?_; refine JL_nu 55 [] [_, _, _] ?_; refine JE_nextS (i + 1) (by kernel_rfl) ?_ ?_ (by kernel_rfl) ?_
                  · exact ⟨by omega, ascR_step ho (by unfold okA; omega)⟩
                  · first | omega | (dsimp only; omega)
                  · exact subset_app subset_nil ss0
          · refine JL_du 55 [] [_, _, _] ?_; refine JC_seq ?_; refine JC_false rfl ?_; refine JC_exit ?_; refine JE_then_exit ?_; refine JE_nextS_exit ?_; refine JE_block_exit ?_; refine JE_block_normal ?_; refine JE_then ?_; refine JC_region ?_; refine JL_add_to rfl rfl (IntWalk.i64_in _ (by omega)) ?_; refine JL_m ?_; refine JL_nu 55 [] [_, _, _] ?_; refine JE_nextS (k + 1) (by kernel_rfl) ?_ ?_ (by kernel_rfl) ?_
            · exact ⟨by omega, fun j hj => by
              rcases Nat.lt_or_ge j k with h | h
              · exact hg j h
              · obtain rfl : j = k := by omega
                exact fun i2 hi2 => ho i2 (by omega)⟩
            · first | omega | (dsimp only; omega)
            · exact subset_app subset_nil (ssS ss0)
        · refine JL_du 55 [] [_, _] ?_; refine JC_seq ?_; refine JC_false rfl ?_; refine JC_exit ?_; refine JE_then_exit ?_; refine JE_nextS_exit ?_; refine JE_block_exit ?_; refine JE_then ?_; refine JC_sr ?_; refine JL_assign rfl ?_; refine JL_du 55 [] [_, _] ?_; refine JC_ret ?_; refine JE_ret (vs := [_]) [] Tryz.results95 ⟨rfl, rfl⟩ ?_ ?_
          · rw [decide_eq_true (p := valR n l) (fun j hj => hg j (by omega))]; exact ⟨rfl, rfl⟩
          · exact all_nil

set_option maxHeartbeats 1000000 in
theorem ciso_con {n : Nat} {ad : Option Addr} {c : Nat} {L : List Int} (hL : L.length ≤ 1000000) (ho : isOrd n L) :
    ConF Tryz.prog 150 [.int .i64 (n : Nat), .slice ad L.length c] [vCells ad (i64s L)]
      (fun v φo => v = .bool true ∧ φo = []) := by
  have hsl := srtI_len L
  have hln := ho.len
  refine ConF_of Tryz.func150 rfl 26 _ rfl rfl ?_; intro w0; refine JC_norm ⟨26, [], [_, _, _, _, _, _, _, _, _, _, _, _, _, _, _, _, _, _, _, _, _, _, _, _, _, _]⟩ [] [_] rfl rfl rfl ?_; refine JC_sr ?_; refine JL_assign rfl ?_; refine JL_du 26 [] [_] ?_; refine JC_sr ?_; refine JL_m ?_; refine JL_callF' Asks.nil (valuesI_con) rfl ca50 ⟨rfl, rfl⟩ ?_; rintro _ _ ⟨B9, rfl, rfl⟩; refine JL_callF' (Asks.cons (holds_of_mem am) (Asks.cons (holds_of_mem am) Asks.nil)) (sortedV_con (by omega)) rfl ca49 ⟨rfl, rfl⟩ ?_; rintro _ _ ⟨ad10, c10, rfl, hc10, rfl⟩; refine JL_assign rfl ?_; refine JL_du 26 [] [_, _, _] ?_; refine JC_seq ?_; refine JC_sr ?_; refine JL_m ?_; refine JL_len sl32 rfl ?_; refine JL_m ?_; refine JL_du 26 [] [_, _, _] ?_; refine JC_block ?_
  refine JC_loopS ((Nat)) (fun (i : Nat) => i ≤ n) (fun (i : Nat) => n - i) (fun u (i : Nat) => [none, none, none, none, some (u 4), none, some (u 6), some (u 7), none, none, none, none, none, some (.int .i64 (i : Nat)), some (u 14), some (u 15), some (u 16), some (u 17), some (u 18), some (u 19), some (u 20), some (u 21), none, none, none, none]) (fun (i : Nat) => []) (fun (i : Nat) => []) (0) (by kernel_rfl) ?_ (by kernel_rfl) ?_ ?_
  · exact Nat.zero_le _
  · exact subset_nil
  intro u i hi; refine JC_nm 26 [] [_, _, _] ?_; refine JC_sr ?_; refine JL_lss rfl rfl ?_; refine JL_split (fun h14 => ?_) (fun h14 => ?_)
  · refine JL_du 26 [] [_, _, _] ?_; refine JC_seq ?_; refine JC_true rfl ?_; refine JC_skip ?_; refine JE_then ?_; refine JC_seq ?_; refine JC_block ?_; refine JC_sr ?_; refine JL_m ?_; refine JL_idx i sl32 rfl rfl rfl (by omega) (by first | exact Reads.view am) (by first | (rw [u32s_length]; omega) | (rw [i64s_length]; omega)) ?_; refine JL_loadE ty3 rfl (by first | exact Reads.view am) (i64s_get (by omega)) ?_; refine JL_assign rfl ?_; refine JL_assign rfl ?_; refine JL_du 26 [] [_, _, _] ?_; refine JC_sr ?_; refine JL_m ?_; refine JL_m ?_; refine JL_neq rfl rfl ?_; refine JL_split (fun h20 => ?_) (fun h20 => ?_)
    · exact absurd (by rw [ho.srt, beg_get (by omega)]) h20
    · refine JL_du 26 [] [_, _, _] ?_; refine JC_false rfl ?_; refine JC_skip ?_; refine JE_block_normal ?_; refine JE_then ?_; refine JC_region ?_; refine JL_add_to rfl rfl (IntWalk.i64_in _ (by omega)) ?_; refine JL_m ?_; refine JL_nu 26 [] [_, _, _] ?_; refine JE_nextS (i + 1) (by kernel_rfl) ?_ ?_ (by kernel_rfl) ?_
      · omega
      · first | omega | (dsimp only; omega)
      · exact subset_app subset_nil ss0
  · refine JL_du 26 [] [_, _, _] ?_; refine JC_seq ?_; refine JC_false rfl ?_; refine JC_exit ?_; refine JE_then_exit ?_; refine JE_nextS_exit ?_; refine JE_block_exit ?_; refine JE_then ?_; refine JC_sr ?_; refine JL_m ?_; refine JL_len sl32 rfl ?_; refine JL_m ?_; refine JL_eql rfl rfl ?_; rw [decide_eq_true (p := ((L.length : Nat) : Int) = ((n : Nat) : Int)) (by omega)]; refine JL_assign rfl ?_; refine JL_du 26 [] [_, _, _] ?_; refine JC_ret ?_; refine JE_ret (vs := [_]) [] Tryz.results150 ⟨rfl, rfl⟩ ?_ ?_
    · exact ⟨rfl, rfl⟩
    · exact all_nil

set_option maxHeartbeats 1000000 in
theorem crun_con {adr ado : Option Addr} {cr co : Nat} {R L : List Int} (hR : R.length ≤ 1000000) (hL : L.length ≤ 1000000) :
    ConF Tryz.prog 117 [.slice adr R.length cr, .slice ado L.length co] [vCells adr (i64s R), vCells ado (i64s L)]
      (fun v φo => v = .int .i64 ((runR R L : Nat) : Int) ∧ φo = []) := by
  refine ConF_of Tryz.func117 rfl 29 _ rfl rfl ?_; intro w0; refine JC_norm ⟨29, [], [_, _, _, _, _, _, _, _, _, _, _, _, _, _, _, _, _, _, _, _, _, _, _, _, _, _, _, _, _]⟩ [] [_, _] rfl rfl rfl ?_; refine JC_sr ?_; refine JL_assign rfl ?_; refine JL_du 29 [] [_, _] ?_; refine JC_sr ?_; refine JL_assign rfl ?_; refine JL_assign rfl ?_; refine JL_du 29 [] [_, _] ?_; refine JC_seq ?_; refine JC_sr ?_; refine JL_m ?_; refine JL_len sl32 rfl ?_; refine JL_m ?_; refine JL_du 29 [] [_, _] ?_; refine JC_block ?_; refine JC_loopS ((Nat) × (Nat) × (Bool)) (fun (i, m, bf) => i ≤ L.length ∧ (m, bf) = runI R L i ∧ m ≤ i) (fun (i, m, bf) => L.length - i) (fun u (i, m, bf) => [none, none, none, none, none, some (.int .i64 (m : Nat)), some (.bool bf), none, some (u 8), some (u 9), none, none, some (.int .i64 (i : Nat)), some (u 13), some (u 14), some (u 15), some (u 16), some (u 17), some (u 18), some (u 19), some (u 20), some (u 21), some (u 22), some (u 23), some (u 24), some (u 25), some (u 26), some (u 27), none]) (fun (i, m, bf) => []) (fun (i, m, bf) => []) (0, 0, false) (by kernel_rfl) ?_ (by kernel_rfl) ?_ ?_
  · exact ⟨Nat.zero_le _, rfl, Nat.le_refl _⟩
  · exact subset_nil
  intro u i hC; obtain ⟨i, m, bf⟩ := i; obtain ⟨hi, hr, hm⟩ := hC; refine JC_nm 29 [] [_, _] ?_; refine JC_sr ?_; refine JL_lss rfl rfl ?_; refine JL_split (fun h13 => ?_) (fun h13 => ?_)
  · refine JL_du 29 [] [_, _] ?_; refine JC_seq ?_; refine JC_true rfl ?_; refine JC_skip ?_; refine JE_then ?_; refine JC_seq ?_; refine JC_block ?_; refine JC_sr ?_; refine JL_idx i sl32 rfl rfl rfl (by omega) (by first | exact Reads.view am) (by first | (rw [u32s_length]; omega) | (rw [i64s_length]; omega)) ?_; refine JL_loadE ty3 rfl (by first | exact Reads.view am) (i64s_get (by omega)) ?_; refine JL_assign rfl ?_; refine JL_du 29 [] [_, _] ?_; refine JC_sr ?_; refine JL_m ?_; refine JL_m ?_; refine JL_callF' (Asks.cons (holds_of_mem am) Asks.nil) (contV_con (by omega)) rfl ca51 ⟨rfl, rfl, rfl⟩ ?_; rintro _ _ ⟨rfl, rfl⟩; refine JL_split (fun h18 => ?_) (fun h18 => ?_)
    · refine JL_assign rfl ?_; refine JL_du 29 [] [_, _] ?_; refine JC_seq ?_; refine JC_sr ?_; refine JL_m ?_; refine JL_m ?_; refine JL_gy ?_; refine JL_m ?_; refine JL_gy ?_; refine JL_not rfl ?_; refine JL_pick_t rfl rfl ?_; refine JL_du 29 [] [_, _] ?_; refine JC_cond rfl (fun hb => ?_) (fun hb => ?_)
      · have h23 := hb
        refine JC_region ?_; refine JL_m ?_; refine JL_add_to rfl rfl (IntWalk.i64_in _ (by omega)) ?_; refine JL_assign rfl ?_; refine JL_du 29 [] [_, _] ?_; refine JC_region ?_; refine JL_m ?_; refine JL_assign rfl ?_; refine JL_nu 29 [] [_, _] ?_; refine JE_block_normal ?_; refine JE_then ?_; refine JC_region ?_; refine JL_add_to rfl rfl (IntWalk.i64_in _ (by omega)) ?_; refine JL_m ?_; refine JL_nu 29 [] [_, _] ?_; refine JE_nextS (i + 1, m + 1, true) (by kernel_rfl) ?_ ?_ (by kernel_rfl) ?_
        · exact ⟨by omega, by rw [runI, ← hr, if_pos ⟨h18, by simpa using h23⟩, decide_eq_true h18], by omega⟩
        · first | omega | (dsimp only; omega)
        · exact subset_app subset_nil ss0
      · have h23 := hb
        refine JC_skip ?_; refine JE_then ?_; refine JC_region ?_; refine JL_m ?_; refine JL_assign rfl ?_; refine JL_nu 29 [] [_, _] ?_; refine JE_block_normal ?_; refine JE_then ?_; refine JC_region ?_; refine JL_add_to rfl rfl (IntWalk.i64_in _ (by omega)) ?_; refine JL_m ?_; refine JL_nu 29 [] [_, _] ?_; refine JE_nextS (i + 1, m, true) (by kernel_rfl) ?_ ?_ (by kernel_rfl) ?_
        · exact ⟨by omega, by rw [runI, ← hr, if_neg (fun e => by rw [show bf = false from e.2] at h23; cases h23), decide_eq_true h18], by omega⟩
        · first | omega | (dsimp only; omega)
        · exact subset_app subset_nil ss0
    · refine JL_assign rfl ?_; refine JL_du 29 [] [_, _] ?_; refine JC_seq ?_; refine JC_sr ?_; refine JL_m ?_; refine JL_m ?_; refine JL_gn ?_; refine JL_gn ?_; refine JL_pick_f rfl rfl ?_; refine JL_du 29 [] [_, _] ?_; refine JC_false rfl ?_; refine JC_skip ?_; refine JE_then ?_; refine JC_region ?_; refine JL_m ?_; refine JL_assign rfl ?_; refine JL_nu 29 [] [_, _] ?_; refine JE_block_normal ?_; refine JE_then ?_; refine JC_region ?_; refine JL_add_to rfl rfl (IntWalk.i64_in _ (by omega)) ?_; refine JL_m ?_; refine JL_nu 29 [] [_, _] ?_; refine JE_nextS (i + 1, m, false) (by kernel_rfl) ?_ ?_ (by kernel_rfl) ?_
      · exact ⟨by omega, by rw [runI, ← hr, if_neg (fun e => absurd e.1 h18), decide_eq_false h18], by omega⟩
      · first | omega | (dsimp only; omega)
      · exact subset_app subset_nil ss0
  · refine JL_du 29 [] [_, _] ?_; refine JC_seq ?_; refine JC_false rfl ?_; refine JC_exit ?_; refine JE_then_exit ?_; refine JE_nextS_exit ?_; refine JE_block_exit ?_; refine JE_then ?_; refine JC_sr ?_; refine JL_m ?_; refine JL_assign rfl ?_; refine JL_du 29 [] [_, _] ?_; refine JC_ret ?_; refine JE_ret (vs := [_]) [] Tryz.results117 ⟨rfl, rfl⟩ ?_ ?_
    · exact ⟨by rw [show runR R L = m from by unfold runR; rw [← show i = L.length from by omega, ← hr]]; rfl, rfl⟩
    · exact all_nil

theorem cchk_con {n : Nat} (hn7 : n ≤ 7) {adw : Option Addr} {cw : Nat} {l : List Rw} (hlw : l.length ≤ 16) (hrw : ∀ r ∈ l, r.L.length ≤ 1000000) (hv : valR n l) {ado : Option Addr} {co : Nat} {L : List Int} (hL : L.length ≤ 1000) (ho : isOrd n L) :
    ConF Tryz.prog 116 [.int .i64 (n : Nat), .slice adw l.length cw, .slice ado L.length co] [vCells adw (rws l), vRws l, vCells ado (i64s L)]
      (fun v φo => v = .int .i64 0 ∧ φo = []) := by
  refine ConF_of Tryz.func116 rfl 17 _ rfl rfl ?_; intro w0; refine JC_norm ⟨17, [], [_, _, _, _, _, _, _, _, _, _, _, _, _, _, _, _, _]⟩ [] [_, _, _] rfl rfl rfl ?_; refine JC_sr ?_; refine JL_assign rfl ?_; refine JL_du 17 [] [_, _, _] ?_; refine JC_seq ?_; refine JC_block ?_; refine JC_sr ?_; refine JL_m ?_; refine JL_m ?_; refine JL_callF' (Asks.cons (holds_of_mem am) (Asks.cons (holds_of_mem am) Asks.nil)) (cval_con (by omega) (by omega) hrw) rfl ca95 ⟨rfl, rfl, rfl⟩ ?_; rintro _ _ ⟨rfl, rfl⟩; rw [decide_eq_true (p := valR n l) hv]; refine JL_not rfl ?_; rw [Bool.not_true]; refine JL_assign rfl ?_; refine JL_du 17 [] [_, _, _] ?_; refine JC_false rfl ?_; refine JC_sr ?_; refine JL_m ?_; refine JL_m ?_; refine JL_callF' (Asks.cons (holds_of_mem am) Asks.nil) (ciso_con (by omega) ho) rfl ca150 ⟨rfl, rfl, rfl⟩ ?_; rintro _ _ ⟨rfl, rfl⟩; refine JL_not rfl ?_; rw [Bool.not_true]; refine JL_assign rfl ?_; refine JL_du 17 [] [_, _, _] ?_; refine JC_false rfl ?_; refine JC_skip ?_; refine JE_block_normal ?_; refine JE_then ?_; refine JC_sr ?_; refine JL_assign rfl ?_
  refine JL_du 17 [] [_, _, _] ?_; refine JC_ret ?_; refine JE_ret (vs := [_]) [] Tryz.results116 ⟨rfl, rfl⟩ ?_ ?_
  · exact ⟨rfl, rfl⟩
  · exact all_nil

set_option maxHeartbeats 1000000 in
theorem cruns_con {n : Nat} (hn7 : n ≤ 7) {adw : Option Addr} {cw : Nat} {l : List Rw} (hlw : l.length ≤ 16) (hrw : ∀ r ∈ l, r.L.length ≤ 1000000) (hv : valR n l) {ado : Option Addr} {co : Nat} {L : List Int} (hL : L.length ≤ 1000) (ho : isOrd n L) :
    ConF Tryz.prog 94 [.int .i64 (n : Nat), .slice adw l.length cw, .slice ado L.length co] [vCells adw (rws l), vRws l, vCells ado (i64s L)]
      (fun v φo => ∃ (ad : Option Addr) (c : Nat), v = .tuple #[.slice ad (runL l L).length c, .int .i64 0] ∧ φo = [vCells ad (i64s (runL l L))]) := by
  refine ConF_of Tryz.func94 rfl 33 _ rfl rfl ?_; intro w0; refine JC_norm ⟨33, [], [_, _, _, _, _, _, _, _, _, _, _, _, _, _, _, _, _, _, _, _, _, _, _, _, _, _, _, _, _, _, _, _, _]⟩ [] [_, _, _] rfl rfl rfl ?_; refine JC_sr ?_; refine JL_assign rfl ?_; refine JL_assign rfl ?_; refine JL_du 33 [] [_, _, _] ?_; refine JC_seq ?_; refine JC_sr ?_; refine JL_m ?_; refine JL_m ?_; refine JL_m ?_; refine JL_callF' (Asks.cons (holds_of_mem am) (Asks.cons (holds_of_mem am) (Asks.cons (holds_of_mem am) Asks.nil))) (cchk_con hn7 hlw hrw hv hL ho) rfl ca116 ⟨rfl, rfl, rfl, rfl⟩ ?_; rintro _ _ ⟨rfl, rfl⟩; refine JL_assign rfl ?_; refine JL_du 33 [] [_, _, _] ?_; refine JC_sr ?_; refine JL_m ?_; refine JL_neq rfl rfl ?_; refine JL_split (fun h17 => ?_) (fun h17 => ?_)
  · exact absurd rfl h17
  · refine JL_du 33 [] [_, _, _] ?_; refine JC_false rfl ?_; refine JC_skip ?_; refine JE_then ?_; refine JC_sr ?_; refine JL_assign rfl ?_; refine JL_du 33 [] [_, _, _] ?_; refine JC_seq ?_; refine JC_sr ?_; refine JL_m ?_; refine JL_len sl22 rfl ?_; refine JL_m ?_; refine JL_du 33 [] [_, _, _] ?_; refine JC_block ?_; refine JC_addNil 3 1 ?_; refine JC_norm ⟨33, [], [_, _, _, _, _, _, _, _, _, _, _, _, _, _, _, _, _, _, _, _, _, _, _, _, _, _, _, _, _, _, _, _, _]⟩ [osl _ _ _ _ _ _] [_, _, _] rfl rfl rfl ?_
    refine JC_loopS ((Nat) × (Option Addr) × (Nat) × (List Int)) (fun (k, ad9, c9, M) => k ≤ l.length ∧ M = (runL l L).take k ∧ M.length = k) (fun (k, ad9, c9, M) => l.length - k) (fun u (k, ad9, c9, M) => [none, none, none, none, none, none, none, none, none, some (.slice ad9 M.length c9), none, some (u 11), none, none, none, none, none, none, none, none, none, some (.int .i64 (k : Nat)), some (u 22), some (u 23), some (u 24), some (u 25), some (u 26), some (u 27), some (u 28), some (u 29), some (u 30), some (u 31), none]) (fun (k, ad9, c9, M) => [some (osl ad9 M.length c9 3 1 (i64s M))]) (fun (k, ad9, c9, M) => []) (0, none, 0, []) (by kernel_rfl) ?_ (by kernel_rfl) ?_ ?_
    · exact ⟨Nat.zero_le _, List.take_zero.symm, rfl⟩
    · exact subset_nil
    intro u i hC; obtain ⟨k, ad9, c9, M⟩ := i; obtain ⟨hk, hM, hMl⟩ := hC; refine JC_nm 33 [osl _ _ _ _ _ _] [_, _, _] ?_; refine JC_sr ?_; refine JL_lss rfl rfl ?_; refine JL_split (fun h22 => ?_) (fun h22 => ?_)
    · refine JL_du 33 [osl _ _ _ _ _ _] [_, _, _] ?_; refine JC_seq ?_; refine JC_true rfl ?_; refine JC_skip ?_; refine JE_then ?_; refine JC_seq ?_; refine JC_block ?_; refine JC_seq ?_
      have hkm := rw_mem (l := l) (i := k) (by omega)
      refine JC_rwGet (f := false) (l.getD k dR) am hkm ?_; refine JC_region ?_; refine JL_idx k sl22 rfl rfl (by omega) (by omega) (by first | exact Reads.view am | (exact Reads.own 0 rfl)) (by rw [rws_length]; omega) ?_; refine JL_loadE ty32 rfl (by first | exact Reads.view am | (exact Reads.own 0 rfl)) (rws_get (by omega)) ?_; refine JL_assign rfl ?_; refine JL_du 33 [osl _ _ _ _ _ _] [_, _, _, _] ?_
      have hrl := hrw _ hkm
      refine JC_region ?_; refine JL_m ?_; refine JL_m ?_; refine JL_m ?_; refine JL_callF' (Asks.cons (by first | exact holds_of_mem am | (exact holds_of_own 0 rfl)) (Asks.cons (by first | exact holds_of_mem am | (exact holds_of_own 0 rfl)) Asks.nil)) (crun_con (by omega) (by omega)) rfl ca117 ⟨rfl, rfl, rfl⟩ ?_; rintro _ _ ⟨rfl, rfl⟩; refine JL_build1 sl32 rfl rfl (fun g29 => ?_); refine JL_appendI (L := M) 0 1 sl32 rfl rfl rfl rfl (by omega) (by omega) (fun ad30 cap30 hc30 => ?_); refine JL_dropAt 1 ?_; refine JL_norm _ [osl _ _ _ _ _ _] [_, _, _, _] rfl rfl rfl ?_; rw [show M.length + 1 = (M ++ [((runR (l.getD k dR).L L : Nat) : Int)]).length from by rw [List.length_append]; rfl]; refine JL_assign rfl ?_; refine JL_nu 33 [osl _ _ _ _ _ _] [_, _, _, _] ?_; refine JE_block_normal ?_; refine JE_then ?_; refine JC_region ?_; refine JL_add_to rfl rfl (IntWalk.i64_in _ (by omega)) ?_; refine JL_m ?_; refine JL_nu 33 [osl _ _ _ _ _ _] [_, _, _, _] ?_; refine JE_nextS (k + 1, ad30, cap30, M ++ [((runR (l.getD k dR).L L : Nat) : Int)]) (by kernel_rfl) ?_ ?_ (by kernel_rfl) ?_
      · exact ⟨by omega, by rw [hM, runL_take (by omega)], by rw [List.length_append, hMl]; rfl⟩
      · first | omega | (dsimp only; omega)
      · exact subset_app subset_nil (ssS ss0)
    · refine JL_du 33 [osl _ _ _ _ _ _] [_, _, _] ?_; refine JC_seq ?_; refine JC_false rfl ?_; refine JC_exit ?_; refine JE_then_exit ?_; refine JE_nextS_exit ?_; refine JE_block_exit ?_; refine JE_then ?_; refine JC_sr ?_; refine JL_m ?_; refine JL_assign rfl ?_; refine JL_assign rfl ?_; refine JL_du 33 [osl _ _ _ _ _ _] [_, _, _] ?_; refine JC_ret ?_
      have hMk : M = runL l L := by rw [hM, List.take_of_length_le (by rw [runL_len]; omega)]
      subst hMk; refine JE_give 0 rfl ?_; refine JE_norm _ [] [_, _, _, _] rfl rfl rfl ?_; refine JE_ret (vs := [_, _]) [vCells ad9 (i64s (runL l L))] Tryz.results94 ⟨rfl, rfl, rfl⟩ ?_ ?_
      · exact ⟨ad9, c9, rfl, rfl⟩
      · exact (all_cons am all_nil)

set_option maxHeartbeats 1000000 in
theorem cgaps_con {n : Nat} (hn7 : n ≤ 7) {adw : Option Addr} {cw : Nat} {l : List Rw} (hlw : l.length ≤ 16) (hrw : ∀ r ∈ l, r.L.length ≤ 1000000) (hv : valR n l) {ado : Option Addr} {co : Nat} {L : List Int} (hL : L.length ≤ 1000) (ho : isOrd n L) :
    ConF Tryz.prog 57 [.int .i64 (n : Nat), .slice adw l.length cw, .slice ado L.length co] [vCells adw (rws l), vRws l, vCells ado (i64s L)]
      (fun v φo => v = .tuple #[.int .i64 ((gapS l L l.length : Nat) : Int), .int .i64 0] ∧ φo = []) := by
  have hrll := runL_len l L
  refine ConF_of Tryz.func57 rfl 34 _ rfl rfl ?_; intro w0; refine JC_norm ⟨34, [], [_, _, _, _, _, _, _, _, _, _, _, _, _, _, _, _, _, _, _, _, _, _, _, _, _, _, _, _, _, _, _, _, _, _]⟩ [] [_, _, _] rfl rfl rfl ?_; refine JC_sr ?_; refine JL_assign rfl ?_; refine JL_assign rfl ?_; refine JL_du 34 [] [_, _, _] ?_; refine JC_sr ?_; refine JL_m ?_; refine JL_m ?_; refine JL_m ?_; refine JL_callF' (Asks.cons (holds_of_mem am) (Asks.cons (holds_of_mem am) (Asks.cons (holds_of_mem am) Asks.nil))) (cruns_con hn7 hlw hrw hv hL ho) rfl ca94 ⟨rfl, rfl, rfl, rfl⟩ ?_; rintro _ _ ⟨ad17, c17, rfl, rfl⟩; refine JL_m ?_; refine JL_extract (v := .slice ad17 (runL l L).length c17) rfl rfl ?_; refine JL_extract (v := .int .i64 0) rfl rfl ?_; refine JL_assign rfl ?_; refine JL_assign rfl ?_; refine JL_du 34 [] [_, _, _, _] ?_; refine JC_sr ?_; refine JL_assign rfl ?_; refine JL_du 34 [] [_, _, _, _] ?_; refine JC_seq ?_; refine JC_sr ?_; refine JL_m ?_; refine JL_len sl32 rfl ?_; refine JL_m ?_; refine JL_du 34 [] [_, _, _, _] ?_; refine JC_block ?_
  refine JC_loopS ((Nat) × (Nat)) (fun (k, m) => k ≤ l.length ∧ m = gapS l L k ∧ m ≤ 1000 * k) (fun (k, m) => l.length - k) (fun u (k, m) => [none, none, none, none, none, none, none, none, none, none, some (.int .i64 (m : Nat)), none, some (u 12), none, none, none, none, none, none, none, none, none, some (.int .i64 (k : Nat)), some (u 23), some (u 24), some (u 25), some (u 26), some (u 27), some (u 28), some (u 29), some (u 30), some (u 31), none, none]) (fun (k, m) => []) (fun (k, m) => []) (0, 0) (by kernel_rfl) ?_ (by kernel_rfl) ?_ ?_
  · exact ⟨Nat.zero_le _, rfl, Nat.zero_le _⟩
  · exact subset_nil
  intro u i hC; obtain ⟨k, m⟩ := i; obtain ⟨hk, hm, hmb⟩ := hC; refine JC_nm 34 [] [_, _, _, _] ?_; refine JC_sr ?_; refine JL_lss rfl rfl ?_; refine JL_split (fun h23 => ?_) (fun h23 => ?_)
  · refine JL_du 34 [] [_, _, _, _] ?_; refine JC_seq ?_; refine JC_true rfl ?_; refine JC_skip ?_; refine JE_then ?_; refine JC_seq ?_; refine JC_block ?_; refine JC_sr ?_; refine JL_idx k sl32 rfl rfl rfl (by omega) (by first | exact Reads.view am) (by first | (rw [u32s_length]; omega) | (rw [i64s_length]; omega)) ?_; refine JL_loadE ty3 rfl (by first | exact Reads.view am) (i64s_get (by omega)) ?_; refine JL_assign rfl ?_; refine JL_du 34 [] [_, _, _, _] ?_
    have hrg := runL_get (L := L) (show k < l.length by omega)
    have hrb := runI_le (l.getD k dR).L L L.length
    have hrr : runR (l.getD k dR).L L ≤ L.length := hrb
    rw [hrg]; refine JC_region ?_; refine JL_m ?_; refine JL_m ?_; refine JL_sub_to rfl rfl (IntWalk.i64_in _ (by omega)) ?_; refine JL_max rfl rfl ?_; refine JL_add_to rfl rfl (IntWalk.i64_in _ (by omega)) ?_; rw [show (((m : Nat) : Int) + (if ((runR (l.getD k dR).L L : Nat) : Int) - 1 < 0 then 0 else ((runR (l.getD k dR).L L : Nat) : Int) - 1) : Int) = ((m + (runR (l.getD k dR).L L - 1) : Nat) : Int) from by split <;> omega]; refine JL_assign rfl ?_; refine JL_nu 34 [] [_, _, _, _] ?_; refine JE_block_normal ?_; refine JE_then ?_; refine JC_region ?_; refine JL_add_to rfl rfl (IntWalk.i64_in _ (by omega)) ?_; refine JL_m ?_; refine JL_nu 34 [] [_, _, _, _] ?_; refine JE_nextS (k + 1, m + (runR (l.getD k dR).L L - 1)) (by kernel_rfl) ?_ ?_ (by kernel_rfl) ?_
    · exact ⟨by omega, by rw [hm]; rfl, by omega⟩
    · first | omega | (dsimp only; omega)
    · exact subset_app subset_nil ss0
  · refine JL_du 34 [] [_, _, _, _] ?_; refine JC_seq ?_; refine JC_false rfl ?_; refine JC_exit ?_; refine JE_then_exit ?_; refine JE_nextS_exit ?_; refine JE_block_exit ?_; refine JE_then ?_; refine JC_sr ?_; refine JL_m ?_; refine JL_m ?_; refine JL_assign rfl ?_; refine JL_assign rfl ?_; refine JL_du 34 [] [_, _, _, _] ?_; refine JC_ret ?_; refine JE_ret (vs := [_, _]) [] Tryz.results57 ⟨rfl, rfl, rfl⟩ ?_ ?_
    · rw [hm, show k = l.length from by omega]; exact ⟨rfl, rfl⟩
    · exact all_nil

theorem cis_con {n : Nat} (hn7 : n ≤ 7) {adw : Option Addr} {cw : Nat} {l : List Rw} (hlw : l.length ≤ 16) (hrw : ∀ r ∈ l, r.L.length ≤ 1000000) (hv : valR n l) {ado : Option Addr} {co : Nat} {L : List Int} (hL : L.length ≤ 1000) (ho : isOrd n L) :
    ConF Tryz.prog 32 [.int .i64 (n : Nat), .slice adw l.length cw, .slice ado L.length co] [vCells adw (rws l), vRws l, vCells ado (i64s L)]
      (fun v φo => v = .bool (decide (gapS l L l.length = 0)) ∧ φo = []) := by
  refine ConF_of Tryz.func32 rfl 22 _ rfl rfl ?_; intro w0; refine JC_norm ⟨22, [], [_, _, _, _, _, _, _, _, _, _, _, _, _, _, _, _, _, _, _, _, _, _]⟩ [] [_, _, _] rfl rfl rfl ?_; refine JC_sr ?_; refine JL_assign rfl ?_; refine JL_du 22 [] [_, _, _] ?_; refine JC_sr ?_; refine JL_m ?_; refine JL_m ?_; refine JL_m ?_; refine JL_callF' (Asks.cons (holds_of_mem am) (Asks.cons (holds_of_mem am) (Asks.cons (holds_of_mem am) Asks.nil))) (cgaps_con hn7 hlw hrw hv hL ho) rfl ca57 ⟨rfl, rfl, rfl, rfl⟩ ?_; rintro _ _ ⟨rfl, rfl⟩; refine JL_m ?_; refine JL_extract (v := .int .i64 ((gapS l L l.length : Nat) : Int)) rfl rfl ?_; refine JL_extract (v := .int .i64 0) rfl rfl ?_; refine JL_assign rfl ?_; refine JL_assign rfl ?_; refine JL_du 22 [] [_, _, _] ?_; refine JC_sr ?_; refine JL_m ?_; refine JL_eql rfl rfl ?_; refine JL_split (fun h17 => ?_) (fun h17 => ?_)
  · refine JL_m ?_; refine JL_gy ?_; refine JL_m ?_; refine JL_gy ?_; refine JL_eql rfl rfl ?_; rw [decide_eq_decide.2 (show ((gapS l L l.length : Nat) : Int) = 0 ↔ gapS l L l.length = 0 by omega)]; refine JL_pick_t rfl rfl ?_; refine JL_assign rfl ?_; refine JL_du 22 [] [_, _, _] ?_; refine JC_ret ?_; refine JE_ret (vs := [_]) [] Tryz.results32 ⟨rfl, rfl⟩ ?_ ?_
    · exact ⟨rfl, rfl⟩
    · exact all_nil
  · exact absurd rfl h17

end Go.Fw.K
