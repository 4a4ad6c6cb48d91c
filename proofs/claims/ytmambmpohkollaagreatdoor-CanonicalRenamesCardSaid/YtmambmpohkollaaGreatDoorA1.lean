/- Walks through functions of the given program: each meets its contract. (Printed by a program of this repo.) -/
import Derived.Test.YtmambmpohkollaaGreatDoorCnDI
import Derived.Test.YtmambmpohkollaaGreatDoorFwTW
import Derived.Test.YtmambmpohkollaaGreatDoorProg
namespace Go.Fw.A1
open Go Go.RowKit Go.Proofs Go.Nat9 Go.Fw
attribute [local irreducible] JC JL JE
theorem ca101 : callable Tryz.prog 101 = true := by kernel_rfl
theorem ca76 : callable Tryz.prog 76 = true := by kernel_rfl
theorem ca83 : callable Tryz.prog 83 = true := by kernel_rfl
theorem ca89 : callable Tryz.prog 89 = true := by kernel_rfl
theorem ca90 : callable Tryz.prog 90 = true := by kernel_rfl
theorem it3 : intTy Tryz.prog 3 = some .i64 := by kernel_rfl
theorem it96 : intTy Tryz.prog 96 = some .u64 := by kernel_rfl
theorem sl22 : slOf Tryz.prog 22 = some (3, 1, 8, [.int .i64 0]) := by kernel_rfl
theorem ty3 : tyOf Tryz.prog 3 = some (false, 1) := by kernel_rfl
theorem us3 : (Tryz.prog.underlying 3).isSome = true := by kernel_rfl
theorem us96 : (Tryz.prog.underlying 96).isSome = true := by kernel_rfl
end Go.Fw.A1
namespace Go.Fw.K
open Go Go.RowKit Go.Proofs Go.Nat9 Go.Fw Go.Fw.A1
attribute [local irreducible] JC JL JE

open Go.Fw.Cn
theorem nan_con {n : Int} :
    ConF Tryz.prog 101 [.int .i64 n] []
      (fun v φo => v = .bool (false) ∧ φo = []) := by
 refine ConF_of Tryz.func101 rfl 6 (_ :: rp 5) rfl rfl ?_; intro w0; refine JC_st [] [] ?_; refine JC_sr ?_; refine JL_a ?_; refine JL_dv 6 ?_; refine JC_sr ?_; refine JL_m ?_; refine JL_m ?_; refine JL_neq rfl rfl ?_; rw [decide_eq_false (p := n ≠ n) (fun h => h rfl)]; refine JL_a ?_; refine JL_dv 6 ?_; refine JC_ret ?_; refine JE_ret (vs := [_]) [] Tryz.results101 ⟨rfl, rfl⟩ ?_ ?_
 · exact ⟨rfl, rfl⟩
 · exact all_nil

theorem nan2_con {n : Int} :
    ConF Tryz.prog 90 [.int .i64 n] []
      (fun v φo => v = .bool (false) ∧ φo = []) := by
 refine ConF_of Tryz.func90 rfl 6 (_ :: rp 5) rfl rfl ?_; intro w0; refine JC_st [] [] ?_; refine JC_sr ?_; refine JL_a ?_; refine JL_dv 6 ?_; refine JC_sr ?_; refine JL_m ?_; refine JL_m ?_; refine JL_neq rfl rfl ?_; rw [decide_eq_false (p := n ≠ n) (fun h => h rfl)]; refine JL_a ?_; refine JL_dv 6 ?_; refine JC_ret ?_; refine JE_ret (vs := [_]) [] Tryz.results90 ⟨rfl, rfl⟩ ?_ ?_
 · exact ⟨rfl, rfl⟩
 · exact all_nil

theorem less_con {a b : Int} :
    ConF Tryz.prog 89 [.int .i64 a, .int .i64 b] []
      (fun v φo => v = .bool (decide (a < b)) ∧ φo = []) := by
 refine ConF_of Tryz.func89 rfl 17 (_ :: _ :: rp 15) rfl rfl ?_; intro w0; refine JC_st [] [] ?_; refine JC_sr ?_; refine JL_a ?_; refine JL_dv 17 ?_; refine JC_sr ?_; refine JL_m ?_; refine JL_callF' Asks.nil (nan_con) rfl ca101 ⟨rfl, rfl⟩ ?_; rintro _ _ ⟨rfl, rfl⟩; refine JL_m ?_; refine JL_gn ?_; refine JL_gn ?_; refine JL_gn ?_; refine JL_pick_f rfl rfl ?_; refine JL_m ?_; refine JL_gy ?_; refine JL_m ?_; refine JL_gy ?_; refine JL_m ?_; refine JL_gy ?_; refine JL_lss rfl rfl ?_; refine JL_pick_f rfl rfl ?_; refine JL_a ?_; refine JL_du 17 [] [] ?_; refine JC_ret ?_; refine JE_ret (vs := [_]) [] Tryz.results89 ⟨rfl, rfl⟩ ?_ ?_
 · exact ⟨rfl, rfl⟩
 · exact all_nil

theorem idxV_con {ad : Option Addr} {c : Nat} {L : List Int} {x : Int} (hln : L.length ≤ 1000000) :
    ConF Tryz.prog 83 [.slice ad L.length c, .int .i64 x] [vCells ad (i64s L)]
      (fun v φo => ∃ r, v = .int .i64 r ∧ φo = [] ∧ firstI (fun k => decide (x = L.getD k 0)) L.length r) := by
 refine ConF_of Tryz.func83 rfl 19 (_ :: _ :: rp 17) rfl rfl ?_; intro w0; refine JC_st [] [_] ?_; refine JC_sr ?_; refine JL_a ?_; refine JL_dv 19 ?_; refine JC_seq ?_; refine JC_sr ?_; refine JL_m ?_; refine JL_len sl22 rfl ?_; refine JL_m ?_; refine JL_dv 19 ?_; refine JC_block ?_; refine JC_loopS ((Nat)) (fun (k : Nat) => k ≤ L.length ∧ ∀ j, j < k → decide (x = L.getD j 0) = false) (fun (k : Nat) => L.length - k) (fun u (k : Nat) => (rn 4 (sc u 4 2 (rn 2 (some (.int .i64 (k : Nat)) :: sc u 9 10 []))))) (fun (k : Nat) => []) (fun (k : Nat) => []) (0) kr ?_ kr ?_ ?_
 · exact ⟨Nat.zero_le _, fun j hj => absurd hj (Nat.not_lt_zero j)⟩
 · exact subset_nil
 intro u k hC; obtain ⟨hk, hpf⟩ := hC; refine JC_nm 19 [] [_] ?_; refine JC_sr ?_; refine JL_lss rfl rfl ?_; refine JL_split (fun h9 => ?_) (fun h9 => ?_)
 ·refine JL_dv 19 ?_; refine JC_seq ?_; refine JC_true rfl ?_; refine JC_skip ?_; refine JE_then ?_; refine JC_seq ?_; refine JC_block ?_; refine JC_sr ?_; refine JL_m ?_; refine JL_a ?_; refine JL_dv 19 ?_; refine JC_sr ?_; refine JL_m ?_; refine JL_m ?_; refine JL_m ?_; refine JL_idx k sl22 rfl rfl rfl om rdg lno ?_; refine JL_loadE ty3 rfl rdg (i64s_get om) ?_; refine JL_eql rfl rfl ?_; refine JL_split (fun h16 => ?_) (fun h16 => ?_)
  ·refine JL_dv 19 ?_; refine JC_true rfl ?_; refine JC_sr ?_; refine JL_m ?_; refine JL_a ?_; refine JL_dv 19 ?_; refine JC_ret ?_; refine JE_block_ret ?_; refine JE_then_ret ?_; refine JE_nextS_ret ?_; refine JE_block_ret ?_; refine JE_then_ret ?_; refine JE_ret (vs := [_]) [] Tryz.results83 ⟨rfl, rfl⟩ ?_ ?_
   · exact ⟨_, rfl, rfl, .inr ⟨k, by omega, rfl, decide_eq_true h16, hpf⟩⟩
   · exact all_nil
  ·refine JL_dv 19 ?_; refine JC_false rfl ?_; refine JC_skip ?_; refine JE_block_normal ?_; refine JE_then ?_; refine JC_region ?_; refine JL_add_to rfl rfl i6o ?_; refine JL_m ?_; refine JL_nv 19 ?_; refine JE_nextS (k + 1) kr ?_ ?_ kr ?_
   · exact ⟨by omega, fun j hj => by
     by_cases h : j = k
     · subst h; exact decide_eq_false h16
     · exact hpf j om⟩
   · first | omega | (dsimp only; omega)
   · exact subset_app subset_nil ss0
 ·refine JL_dv 19 ?_; refine JC_seq ?_; refine JC_false rfl ?_; refine JC_exit ?_; refine JE_then_exit ?_; refine JE_nextS_exit ?_; refine JE_block_exit ?_; refine JE_then ?_; refine JC_sr ?_; refine JL_a ?_; refine JL_dv 19 ?_; refine JC_ret ?_; refine JE_ret (vs := [_]) [] Tryz.results83 ⟨rfl, rfl⟩ ?_ ?_
  · exact ⟨_, rfl, rfl, .inl ⟨rfl, fun j hj => hpf j om⟩⟩
  · exact all_nil

theorem contV_con {ad : Option Addr} {c : Nat} {L : List Int} {x : Int} (hln : L.length ≤ 1000000) :
    ConF Tryz.prog 61 [.slice ad L.length c, .int .i64 x] [vCells ad (i64s L)]
      (fun v φo => v = .bool (decide (x ∈ L)) ∧ φo = []) := by
 refine ConF_of Tryz.func61 rfl 9 (_ :: _ :: rp 7) rfl rfl ?_; intro w0; refine JC_st [] [_] ?_; refine JC_sr ?_; refine JL_a ?_; refine JL_dv 9 ?_; refine JC_sr ?_; refine JL_m ?_; refine JL_m ?_; refine JL_callF' (Asks.cons (holds_of_mem am) Asks.nil) (idxV_con hln) rfl ca83 ⟨rfl, rfl, rfl⟩ ?_; rintro _ _ ⟨r7, rfl, rfl, hr7⟩; refine JL_geq rfl rfl ?_; rw [memI_first hr7]; refine JL_a ?_; refine JL_du 9 [] [_] ?_; refine JC_ret ?_; refine JE_ret (vs := [_]) [] Tryz.results61 ⟨rfl, rfl⟩ ?_ ?_
 · exact ⟨rfl, rfl⟩
 · exact all_nil

set_option maxHeartbeats 1000000 in
theorem numb_con {ad : Option Addr} {c : Nat} {L : List Int} (hL : L.length ≤ 1000000) :
    ConF Tryz.prog 67 [.slice ad L.length c] [vCells ad (i64s L)]
      (fun v φo => v = .bool (decide (nmL L ∧ L.length ≤ 32)) ∧ φo = []) := by
 refine ConF_of Tryz.func67 rfl 35 (_ :: rp 34) rfl rfl ?_; intro w0; refine JC_st [] [_] ?_; refine JC_sr ?_; refine JL_a ?_; refine JL_dv 35 ?_; refine JC_seq ?_; refine JC_sr ?_; refine JL_m ?_; refine JL_len sl22 rfl ?_; refine JL_m ?_; refine JL_dv 35 ?_; refine JC_block ?_; refine JC_loopS ((Nat)) (fun (i : Nat) => i ≤ L.length ∧ ∀ j, j < i → nmA L j) (fun (i : Nat) => L.length - i) (fun u (i : Nat) => (rn 2 (sc u 2 3 (rn 2 (some (.int .i64 (i : Nat)) :: sc u 8 24 []))))) (fun (i : Nat) => []) (fun (i : Nat) => []) (0) kr ?_ kr ?_ ?_
 · exact ⟨Nat.zero_le _, fun j hj => absurd hj (Nat.not_lt_zero _)⟩
 · exact subset_nil
 intro u i hC; obtain ⟨hk, hj⟩ := hC; refine JC_nm 35 [] [_] ?_; refine JC_sr ?_; refine JL_lss rfl rfl ?_; refine JL_split (fun h8 => ?_) (fun h8 => ?_)
 ·refine JL_dv 35 ?_; refine JC_seq ?_; refine JC_true rfl ?_; refine JC_skip ?_; refine JE_then ?_; refine JC_seq ?_; refine JC_block ?_; refine JC_sr ?_; refine JL_m ?_; refine JL_idx i sl22 rfl rfl rfl om rdg lno ?_; refine JL_loadE ty3 rfl rdg (i64s_get om) ?_; refine JL_a ?_; refine JL_a ?_; refine JL_dv 35 ?_; refine JC_seq ?_
  rcases nm5 L i with hA | hA | hA | hA | hA
  ·refine JC_region ?_; refine JL_m ?_; refine JL_lss rfl rfl ?_; rw [decide_eq_true (p := L.getD i 0 < 1) om]; refine JL_m ?_; refine JL_gn ?_; refine JL_gn ?_; refine JL_pick_t rfl rfl ?_; refine JL_m ?_; refine JL_gn ?_; refine JL_gn ?_; refine JL_gn ?_; refine JL_guard_un rfl rfl ?_; refine JL_guard_un rfl rfl ?_; refine JL_guard_un rfl rfl ?_; refine JL_guard_un rfl rfl ?_; refine JL_guard_un rfl rfl ?_; refine JL_guard_un rfl rfl ?_; refine JL_guard_un rfl rfl ?_; refine JL_gn ?_; refine JL_pick_t rfl rfl ?_; refine JL_dv 35 ?_; refine JC_true rfl ?_; refine JC_sr ?_; refine JL_a ?_; refine JL_dv 35 ?_; refine JC_ret ?_; refine JE_block_ret ?_; refine JE_then_ret ?_; refine JE_nextS_ret ?_; refine JE_block_ret ?_; refine JE_then_ret ?_; refine JE_ret (vs := [_]) [] Tryz.results67 ⟨rfl, rfl⟩ ?_ ?_
   · rw [decide_eq_false (p := nmL L ∧ L.length ≤ 32) (fun c => (show ¬ nmA L i by unfold nmA; omega) (c.1 i om))]; exact ⟨rfl, rfl⟩
   · exact all_nil
  ·refine JC_region ?_; refine JL_m ?_; refine JL_lss rfl rfl ?_; rw [decide_eq_false (p := L.getD i 0 < 1) om]; refine JL_m ?_; refine JL_gy ?_; refine JL_m ?_; refine JL_gy ?_; refine JL_gtr rfl rfl ?_; rw [decide_eq_true (p := 999 < L.getD i 0) om]; refine JL_pick_f rfl rfl ?_; refine JL_m ?_; refine JL_gn ?_; refine JL_gn ?_; refine JL_gn ?_; refine JL_guard_un rfl rfl ?_; refine JL_guard_un rfl rfl ?_; refine JL_guard_un rfl rfl ?_; refine JL_guard_un rfl rfl ?_; refine JL_guard_un rfl rfl ?_; refine JL_guard_un rfl rfl ?_; refine JL_guard_un rfl rfl ?_; refine JL_gn ?_; refine JL_pick_t rfl rfl ?_; refine JL_dv 35 ?_; refine JC_true rfl ?_; refine JC_sr ?_; refine JL_a ?_; refine JL_dv 35 ?_; refine JC_ret ?_; refine JE_block_ret ?_; refine JE_then_ret ?_; refine JE_nextS_ret ?_; refine JE_block_ret ?_; refine JE_then_ret ?_; refine JE_ret (vs := [_]) [] Tryz.results67 ⟨rfl, rfl⟩ ?_ ?_
   · rw [decide_eq_false (p := nmL L ∧ L.length ≤ 32) (fun c => (show ¬ nmA L i by unfold nmA; omega) (c.1 i om))]; exact ⟨rfl, rfl⟩
   · exact all_nil
  ·refine JC_region ?_; refine JL_m ?_; refine JL_lss rfl rfl ?_; rw [decide_eq_false (p := L.getD i 0 < 1) om]; refine JL_m ?_; refine JL_gy ?_; refine JL_m ?_; refine JL_gy ?_; refine JL_gtr rfl rfl ?_; rw [decide_eq_false (p := 999 < L.getD i 0) om]; refine JL_pick_f rfl rfl ?_; refine JL_m ?_; refine JL_gy ?_; refine JL_m ?_; refine JL_gy ?_; refine JL_gtr rfl rfl ?_; rw [decide_eq_false (p := (0 : Int) < (i : Int)) om]; refine JL_gy ?_; refine JL_m ?_; refine JL_gn ?_; refine JL_gn ?_; refine JL_gn ?_; refine JL_gn ?_; refine JL_gn ?_; refine JL_gn ?_; refine JL_gn ?_; refine JL_gy ?_; refine JL_pick_f rfl rfl ?_; refine JL_pick_f rfl rfl ?_; refine JL_dv 35 ?_; refine JC_false rfl ?_; refine JC_skip ?_; refine JE_block_normal ?_; refine JE_then ?_; refine JC_region ?_; refine JL_add_to rfl rfl i6o ?_; refine JL_m ?_; refine JL_nv 35 ?_; refine JE_nextS (i + 1) kr ?_ ?_ kr ?_
   · exact ⟨by omega, nm_step hj (by unfold nmA; omega)⟩
   · first | omega | (dsimp only; omega)
   · exact subset_app subset_nil ss0
  ·refine JC_region ?_; refine JL_m ?_; refine JL_lss rfl rfl ?_; rw [decide_eq_false (p := L.getD i 0 < 1) om]; refine JL_m ?_; refine JL_gy ?_; refine JL_m ?_; refine JL_gy ?_; refine JL_gtr rfl rfl ?_; rw [decide_eq_false (p := 999 < L.getD i 0) om]; refine JL_pick_f rfl rfl ?_; refine JL_m ?_; refine JL_gy ?_; refine JL_m ?_; refine JL_gy ?_; refine JL_gtr rfl rfl ?_; rw [decide_eq_true (p := (0 : Int) < (i : Int)) om]; refine JL_gy ?_; refine JL_m ?_; refine JL_gy ?_; refine JL_m ?_; refine JL_gy ?_; refine JL_m ?_; refine JL_gy ?_; refine JL_m ?_; refine JL_gy ?_; refine JL_sub_to rfl rfl i6o ?_; refine JL_gy ?_; refine JL_idx (i - 1) sl22 rfl rfl om om rdg lno ?_; refine JL_gy ?_; refine JL_loadE ty3 rfl rdg (i64s_get om) ?_; refine JL_gy ?_; refine JL_leq rfl rfl ?_; rw [decide_eq_true (p := L.getD i 0 ≤ L.getD (i - 1) 0) om]; refine JL_gy ?_; refine JL_pick_t rfl rfl ?_; refine JL_pick_f rfl rfl ?_
   refine JL_dv 35 ?_; refine JC_true rfl ?_; refine JC_sr ?_; refine JL_a ?_; refine JL_dv 35 ?_; refine JC_ret ?_; refine JE_block_ret ?_; refine JE_then_ret ?_; refine JE_nextS_ret ?_; refine JE_block_ret ?_; refine JE_then_ret ?_; refine JE_ret (vs := [_]) [] Tryz.results67 ⟨rfl, rfl⟩ ?_ ?_
   · rw [decide_eq_false (p := nmL L ∧ L.length ≤ 32) (fun c => (show ¬ nmA L i by unfold nmA; omega) (c.1 i om))]; exact ⟨rfl, rfl⟩
   · exact all_nil
  ·refine JC_region ?_; refine JL_m ?_; refine JL_lss rfl rfl ?_; rw [decide_eq_false (p := L.getD i 0 < 1) om]; refine JL_m ?_; refine JL_gy ?_; refine JL_m ?_; refine JL_gy ?_; refine JL_gtr rfl rfl ?_; rw [decide_eq_false (p := 999 < L.getD i 0) om]; refine JL_pick_f rfl rfl ?_; refine JL_m ?_; refine JL_gy ?_; refine JL_m ?_; refine JL_gy ?_; refine JL_gtr rfl rfl ?_; rw [decide_eq_true (p := (0 : Int) < (i : Int)) om]; refine JL_gy ?_; refine JL_m ?_; refine JL_gy ?_; refine JL_m ?_; refine JL_gy ?_; refine JL_m ?_; refine JL_gy ?_; refine JL_m ?_; refine JL_gy ?_; refine JL_sub_to rfl rfl i6o ?_; refine JL_gy ?_; refine JL_idx (i - 1) sl22 rfl rfl om om rdg lno ?_; refine JL_gy ?_; refine JL_loadE ty3 rfl rdg (i64s_get om) ?_; refine JL_gy ?_; refine JL_leq rfl rfl ?_; rw [decide_eq_false (p := L.getD i 0 ≤ L.getD (i - 1) 0) om]; refine JL_gy ?_; refine JL_pick_t rfl rfl ?_; refine JL_pick_f rfl rfl ?_
   refine JL_dv 35 ?_; refine JC_false rfl ?_; refine JC_skip ?_; refine JE_block_normal ?_; refine JE_then ?_; refine JC_region ?_; refine JL_add_to rfl rfl i6o ?_; refine JL_m ?_; refine JL_nv 35 ?_; refine JE_nextS (i + 1) kr ?_ ?_ kr ?_
   · exact ⟨by omega, nm_step hj (by unfold nmA; omega)⟩
   · first | omega | (dsimp only; omega)
   · exact subset_app subset_nil ss0
 ·refine JL_dv 35 ?_; refine JC_seq ?_; refine JC_false rfl ?_; refine JC_exit ?_; refine JE_then_exit ?_; refine JE_nextS_exit ?_; refine JE_block_exit ?_; refine JE_then ?_; refine JC_sr ?_; refine JL_m ?_; refine JL_len sl22 rfl ?_; refine JL_leq rfl rfl ?_; refine JL_a ?_; refine JL_dv 35 ?_; refine JC_ret ?_; refine JE_ret (vs := [_]) [] Tryz.results67 ⟨rfl, rfl⟩ ?_ ?_
  · rw [decide_eq_decide.2 (show ((L.length : Nat) : Int) ≤ 32 ↔ nmL L ∧ L.length ≤ 32 from ⟨fun h => ⟨fun j h2 => hj j om, by omega⟩, fun h => by omega⟩)]; exact ⟨rfl, rfl⟩
  · exact all_nil

set_option maxHeartbeats 1000000 in
theorem bs_con {ad : Option Addr} {c : Nat} {L : List Int} (hL : L.length ≤ 1000000) {x : Int} (ha : ascI L) :
    ConF Tryz.prog 76 [.slice ad L.length c, .int .i64 x] [vCells ad (i64s L)]
      (fun v φo => v = .tuple #[.int .i64 (bsI x L : Nat), .bool (decide (x ∈ L))] ∧ φo = []) := by
 refine ConF_of Tryz.func76 rfl 54 (_ :: _ :: rp 52) rfl rfl ?_; intro w0; refine JC_st [] [_] ?_; refine JC_sr ?_; refine JL_a ?_; refine JL_a ?_; refine JL_dv 54 ?_; refine JC_sr ?_; refine JL_m ?_; refine JL_len sl22 rfl ?_; refine JL_a ?_; refine JL_dv 54 ?_; refine JC_sr ?_; refine JL_m ?_; refine JL_a ?_; refine JL_a ?_; refine JL_dv 54 ?_; refine JC_seq ?_; refine JC_block ?_; refine JC_loopS ((Nat) × (Nat)) (fun (i, j) => BS L x i j) (fun (i, j) => j - i) (fun u (i, j) => (rn 7 (some (.int .i64 (i : Nat)) :: some (.int .i64 (j : Nat)) :: some (u 9) :: rn 3 (sc u 13 18 [])))) (fun (i, j) => []) (fun (i, j) => []) (0, L.length) kr ?_ kr ?_ ?_
 · exact BS.zero L x
 · exact subset_nil
 intro u i hB; obtain ⟨i, j⟩ := i; refine JC_nm 54 [] [_] ?_
 have hle := hB.le
 have hlj := hB.len
 refine JC_seq ?_; refine JC_sr ?_; refine JL_m ?_; refine JL_m ?_; refine JL_lss rfl rfl ?_; refine JL_split (fun h15 => ?_) (fun h15 => ?_)
 ·refine JL_dv 54 ?_; refine JC_true rfl ?_; refine JC_skip ?_; refine JE_then ?_; refine JC_block ?_; refine JC_sr ?_; refine JL_m ?_; refine JL_m ?_; refine JL_add_to rfl rfl i6o ?_; refine JL_convInt us3 it96 rfl (IntWalk.u64_in _ om) ?_; refine JL_shr_to (c := (((i + j) / 2 : Nat) : Int)) rfl rfl om shr1_nat ?_; refine JL_convInt us96 it3 rfl i6o ?_; refine JL_a ?_; refine JL_du 54 [] [_] ?_; refine JC_sr ?_; refine JL_m ?_; refine JL_m ?_; refine JL_idx ((i + j) / 2) sl22 rfl rfl rfl om rdg lno ?_; refine JL_loadE ty3 rfl rdg (i64s_get om) ?_; refine JL_m ?_; refine JL_callF' Asks.nil (less_con) rfl ca89 ⟨rfl, rfl, rfl⟩ ?_; rintro _ _ ⟨rfl, rfl⟩; refine JL_split (fun h27 => ?_) (fun h27 => ?_)
  ·refine JL_du 54 [] [_] ?_; refine JC_true rfl ?_; refine JC_region ?_; refine JL_m ?_; refine JL_add_to rfl rfl i6o ?_; refine JL_a ?_; refine JL_nv 54 ?_; refine JE_block_normal ?_; refine JE_nextS ((i + j) / 2 + 1, j) kr ?_ ?_ kr ?_
   · exact hB.up ha om h27
   · first | omega | (dsimp only; omega)
   · exact subset_app subset_nil ss0
  ·refine JL_du 54 [] [_] ?_; refine JC_false rfl ?_; refine JC_region ?_; refine JL_m ?_; refine JL_a ?_; refine JL_nv 54 ?_; refine JE_block_normal ?_; refine JE_nextS (i, (i + j) / 2) kr ?_ ?_ kr ?_
   · exact hB.down ha om om h27
   · first | omega | (dsimp only; omega)
   · exact subset_app subset_nil ss0
 ·refine JL_dv 54 ?_; refine JC_false rfl ?_; refine JC_exit ?_; refine JE_then_exit ?_; refine JE_nextS_exit ?_; refine JE_block_exit ?_; refine JE_then ?_; refine JC_sr ?_; refine JL_m ?_; refine JL_m ?_; refine JL_m ?_; refine JL_lss rfl rfl ?_; refine JL_split (fun h34 => ?_) (fun h34 => ?_)
  ·refine JL_m ?_; refine JL_gy ?_; refine JL_m ?_; refine JL_gy ?_; refine JL_m ?_; refine JL_gy ?_; refine JL_idx i sl22 rfl rfl rfl om rdg lno ?_; refine JL_gy ?_; refine JL_loadE ty3 rfl rdg (i64s_get om) ?_; refine JL_gy ?_; refine JL_m ?_; refine JL_gy ?_; refine JL_eql rfl rfl ?_; refine JL_split (fun h41 => ?_) (fun h41 => ?_)
   ·refine JL_gy ?_; refine JL_m ?_; refine JL_gn ?_; refine JL_gn ?_; refine JL_gn ?_; refine JL_gn ?_; refine JL_gn ?_; refine JL_gn ?_; refine JL_guard_un rfl rfl ?_; refine JL_guard_un rfl rfl ?_; refine JL_gn ?_; refine JL_gy ?_; refine JL_pick_t rfl rfl ?_; refine JL_pick_t rfl rfl ?_; refine JL_a ?_; refine JL_a ?_; refine JL_dv 54 ?_; refine JC_ret ?_; refine JE_ret (vs := [_, _]) [] Tryz.results76 ⟨rfl, rfl, rfl⟩ ?_ ?_
    · rw [hB.bs om, BS.yes om h41]; exact ⟨rfl, rfl⟩
    · exact all_nil
   ·refine JL_gy ?_; refine JL_m ?_; refine JL_gy ?_; refine JL_m ?_; refine JL_gy ?_; refine JL_m ?_; refine JL_gy ?_; refine JL_idx _ sl22 rfl rfl rfl om rdg lno ?_; refine JL_gy ?_; refine JL_loadE ty3 rfl rdg (i64s_get om) ?_; refine JL_gy ?_; refine JL_callF' Asks.nil (nan2_con) rfl ca90 ⟨rfl, rfl⟩ ?_; rintro _ _ ⟨rfl, rfl⟩; refine JL_gy ?_; refine JL_m ?_; refine JL_gn ?_; refine JL_gn ?_; refine JL_gy ?_; refine JL_pick_f rfl rfl ?_; refine JL_gy ?_; refine JL_pick_f rfl rfl ?_; refine JL_pick_t rfl rfl ?_; refine JL_a ?_; refine JL_a ?_; refine JL_du 54 [] [_] ?_; refine JC_ret ?_; refine JE_ret (vs := [_, _]) [] Tryz.results76 ⟨rfl, rfl, rfl⟩ ?_ ?_
    · rw [hB.bs om, hB.no om ha (fun c => h41 c.2)]; exact ⟨rfl, rfl⟩
    · exact all_nil
  ·refine JL_m ?_; refine JL_gn ?_; refine JL_gn ?_; refine JL_gn ?_; refine JL_gn ?_; refine JL_gn ?_; refine JL_gn ?_; refine JL_gn ?_; refine JL_guard_un rfl rfl ?_; refine JL_guard_un rfl rfl ?_; refine JL_guard_un rfl rfl ?_; refine JL_guard_un rfl rfl ?_; refine JL_guard_un rfl rfl ?_; refine JL_guard_un rfl rfl ?_; refine JL_guard_un rfl rfl ?_; refine JL_guard_un rfl rfl ?_; refine JL_guard_un rfl rfl ?_; refine JL_gn ?_; refine JL_pick_f rfl rfl ?_; refine JL_a ?_; refine JL_a ?_; refine JL_dv 54 ?_; refine JC_ret ?_; refine JE_ret (vs := [_, _]) [] Tryz.results76 ⟨rfl, rfl, rfl⟩ ?_ ?_
   · rw [hB.bs om, hB.no om ha (fun c => h34 om)]; exact ⟨rfl, rfl⟩
   · exact all_nil

theorem has_con {ad : Option Addr} {c : Nat} {L : List Int} (hL : L.length ≤ 1000000) {x : Int} (ha : ascI L) :
    ConF Tryz.prog 68 [.slice ad L.length c, .int .i64 x] [vCells ad (i64s L)]
      (fun v φo => v = .bool (decide (x ∈ L)) ∧ φo = []) := by
 refine ConF_of Tryz.func68 rfl 14 (_ :: _ :: rp 12) rfl rfl ?_; intro w0; refine JC_st [] [_] ?_; refine JC_sr ?_; refine JL_a ?_; refine JL_dv 14 ?_; refine JC_sr ?_; refine JL_m ?_; refine JL_m ?_; refine JL_callF' (Asks.cons (holds_of_mem am) Asks.nil) (bs_con om ha) rfl ca76 ⟨rfl, rfl, rfl⟩ ?_; rintro _ _ ⟨rfl, rfl⟩; refine JL_m ?_; refine JL_extract (v := .int .i64 (bsI x L : Nat)) rfl rfl ?_; refine JL_extract (v := .bool (decide (x ∈ L))) rfl rfl ?_; refine JL_a ?_; refine JL_a ?_; refine JL_du 14 [] [_] ?_; refine JC_sr ?_; refine JL_m ?_; refine JL_a ?_; refine JL_dv 14 ?_; refine JC_ret ?_; refine JE_ret (vs := [_]) [] Tryz.results68 ⟨rfl, rfl⟩ ?_ ?_
 · exact ⟨rfl, rfl⟩
 · exact all_nil

end Go.Fw.K
