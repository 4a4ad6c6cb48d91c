/- Walks through functions of the given program: each meets its contract. (Printed by a program of this repo.) -/
import Derived.Test.YtmambmpohkollaaGreatDoorA9
import Derived.Test.YtmambmpohkollaaGreatDoorA10
import Derived.Test.YtmambmpohkollaaGreatDoorA11
import Derived.Test.YtmambmpohkollaaGreatDoorCnTY
import Derived.Test.YtmambmpohkollaaGreatDoorProg
namespace Go.Fw.C1
open Go Go.RowKit Go.Proofs Go.Nat9 Go.Fw
attribute [local irreducible] JC JL JE
theorem ca10 : callable Tryz.prog 10 = true := by kernel_rfl
theorem ca11 : callable Tryz.prog 11 = true := by kernel_rfl
theorem ca12 : callable Tryz.prog 12 = true := by kernel_rfl
theorem ca16 : callable Tryz.prog 16 = true := by kernel_rfl
theorem ca27 : callable Tryz.prog 27 = true := by kernel_rfl
theorem fo25_0 : fOf Tryz.prog 25 0 = some 0 := by kernel_rfl
theorem fo25_1 : fOf Tryz.prog 25 1 = some 1 := by kernel_rfl
theorem fo25_2 : fOf Tryz.prog 25 2 = some 2 := by kernel_rfl
theorem mixed : Tryz.prog.follows .mixedOrders = true := by kernel_rfl
theorem sl22 : slOf Tryz.prog 22 = some (3, 1, 8, [.int .i64 0]) := by kernel_rfl
theorem sl23 : slOf Tryz.prog 23 = some (66, 3, 24, [.int .i64 0, .int .i64 0, .int .i64 0]) := by kernel_rfl
theorem st25 : stOf Tryz.prog 25 = some ([(0, 1), (1, 1), (2, 1)], [.slice none 0 0, .slice none 0 0, .slice none 0 0]) := by kernel_rfl
theorem st66 : stOf Tryz.prog 66 = some ([(0, 1), (1, 1), (2, 1)], [.int .i64 0, .int .i64 0, .int .i64 0]) := by kernel_rfl
theorem ty22 : tyOf Tryz.prog 22 = some (false, 1) := by kernel_rfl
theorem ty23 : tyOf Tryz.prog 23 = some (false, 1) := by kernel_rfl
theorem ty25 : tyOf Tryz.prog 25 = some (true, 3) := by kernel_rfl
theorem ty3 : tyOf Tryz.prog 3 = some (false, 1) := by kernel_rfl
theorem z25 : zeroOf Tryz.prog 25 = some [.slice none 0 0, .slice none 0 0, .slice none 0 0] := by kernel_rfl
end Go.Fw.C1
namespace Go.Fw.K
open Go Go.RowKit Go.Proofs Go.Nat9 Go.Fw Go.Fw.C1
attribute [local irreducible] JC JL JE

open Go.Fw.Cn
theorem bint_con {ad1 ad2 : Option Addr} {c1 c2 : Nat} {L M : List Int} (hL : L.length ≤ 1000000) (hM : M.length ≤ 1000000) :
    ConF Tryz.prog 16 [.slice ad1 L.length c1, .slice ad2 M.length c2] [vCells ad1 (i64s L), vCells ad2 (i64s M)]
      (fun v φo => v = .bool (decide (L = M)) ∧ φo = []) := by
 refine ConF_of Tryz.func16 rfl 26 (_ :: _ :: rp 24) rfl rfl ?_; intro w0; refine JC_st [] [_, _] ?_; refine JC_sr ?_; refine JL_a ?_; refine JL_dv 26 ?_; refine JC_seq ?_; refine JC_sr ?_; refine JL_m ?_; refine JL_len sl22 rfl ?_; refine JL_m ?_; refine JL_len sl22 rfl ?_; refine JL_neq rfl rfl ?_; refine JL_split (fun h10 => ?_) (fun h10 => ?_)
 ·refine JL_dv 26 ?_; refine JC_true rfl ?_; refine JC_sr ?_; refine JL_a ?_; refine JL_dv 26 ?_; refine JC_ret ?_; refine JE_then_ret ?_; refine JE_ret (vs := [_]) [] Tryz.results16 ⟨rfl, rfl⟩ ?_ ?_
  · rw [decide_eq_false (p := L = M) (fun e => h10 (by rw [e]))]; exact ⟨rfl, rfl⟩
  · exact all_nil
 ·refine JL_dv 26 ?_; refine JC_false rfl ?_; refine JC_skip ?_; refine JE_then ?_; refine JC_seq ?_; refine JC_sr ?_; refine JL_a ?_; refine JL_dv 26 ?_; refine JC_block ?_; refine JC_loopS ((Nat)) (fun (k : Nat) => k ≤ L.length ∧ ∀ j, j < k → L.getD j 0 = M.getD j 0) (fun (k : Nat) => L.length - k) (fun u (k : Nat) => (rn 4 (some (u 4) :: some (.int .i64 (k : Nat)) :: rn 5 (sc u 11 15 [])))) (fun (k : Nat) => []) (fun (k : Nat) => []) (0) kr ?_ kr ?_ ?_
  · exact ⟨Nat.zero_le _, fun j hj => absurd hj (Nat.not_lt_zero _)⟩
  · exact subset_nil
  intro u k hC; obtain ⟨hk, hj⟩ := hC; refine JC_nm 26 [] [_, _] ?_; refine JC_seq ?_; refine JC_sr ?_; refine JL_m ?_; refine JL_m ?_; refine JL_len sl22 rfl ?_; refine JL_lss rfl rfl ?_; refine JL_split (fun h14 => ?_) (fun h14 => ?_)
  ·refine JL_dv 26 ?_; refine JC_true rfl ?_; refine JC_skip ?_; refine JE_then ?_; refine JC_seq ?_; refine JC_block ?_; refine JC_seq ?_
   have _ := hM
   have hlm : L.length = M.length := by omega
   refine JC_drawT mixed 8 [spV 17 [] _, spV 18 [] _, spV 19 [0, 1] _, spV 20 [2] _, spV 21 [] _, spV 22 [] _, spV 23 [4, 5] _, spV 24 [6] _] ⟨oM, oM, OblS_V (fun vals ex ψ => (by refine JL_normQ _ (_ :: _ :: ψ) rfl rfl ?_; refine JL_idx k sl22 rfl rfl rfl om rdg lno ?_; exact vz rfl)), OblS_V (fun vals ex ψ => (by refine JL_normQ _ (_ :: _ :: ψ) rfl rfl ?_; refine JL_loadE ty3 rfl rdg (i64s_get om) ?_; exact vz rfl)), oM, oM, OblS_V (fun vals ex ψ => (by refine JL_normQ _ (_ :: _ :: ψ) rfl rfl ?_; refine JL_idx k sl22 rfl rfl rfl om rdg lno ?_; exact vz rfl)), OblS_V (fun vals ex ψ => (by refine JL_normQ _ (_ :: _ :: ψ) rfl rfl ?_; refine JL_loadE ty3 rfl rdg (i64s_get om) ?_; exact vz rfl)), trivial⟩ kr (fun vals bs => ?_)
   refine JL_normL [_] ⟨26, [(17, _), (18, _), (19, _), (20, _), (21, _), (22, _), (23, _), (24, _)], _⟩ [] [_, _] rfl rfl rfl rfl ?_; refine JL_neq rfl rfl ?_; refine JL_split (fun h25 => ?_) (fun h25 => ?_)
   ·refine JL_du 26 [] [_, _] ?_; refine JC_true rfl ?_; refine JC_sr ?_; refine JL_a ?_; refine JL_dv 26 ?_; refine JC_ret ?_; refine JE_block_ret ?_; refine JE_then_ret ?_; refine JE_nextS_ret ?_; refine JE_block_ret ?_; refine JE_then_ret ?_; refine JE_ret (vs := [_]) [] Tryz.results16 ⟨rfl, rfl⟩ ?_ ?_
    · rw [decide_eq_false (p := L = M) (fun e => h25 (by rw [e]))]; exact ⟨rfl, rfl⟩
    · exact all_nil
   ·refine JL_du 26 [] [_, _] ?_; refine JC_false rfl ?_; refine JC_skip ?_; refine JE_block_normal ?_; refine JE_then ?_; refine JC_region ?_; refine JL_m ?_; refine JL_add_to rfl rfl i6o ?_; refine JL_a ?_; refine JL_nv 26 ?_; refine JE_nextS (k + 1) kr ?_ ?_ kr ?_
    · exact ⟨by omega, fun j hj2 => by
      by_cases e : j = k
      · subst e; exact Classical.not_not.1 h25
      · exact hj j om⟩
    · first | omega | (dsimp only; omega)
    · exact subset_app subset_nil ss0
  ·refine JL_dv 26 ?_; refine JC_false rfl ?_; refine JC_exit ?_; refine JE_then_exit ?_; refine JE_nextS_exit ?_; refine JE_block_exit ?_; refine JE_then ?_; refine JC_sr ?_; refine JL_a ?_; refine JL_dv 26 ?_; refine JC_ret ?_; refine JE_ret (vs := [_]) [] Tryz.results16 ⟨rfl, rfl⟩ ?_ ?_
   · rw [decide_eq_true (p := L = M) (list_eq_of om fun j h2 => hj j om)]; exact ⟨rfl, rfl⟩
   · exact all_nil

theorem path_con  :
    ConF Tryz.prog 27 [] []
      (fun v φo => ∃ g1 g2 g3 : Nat, v = .agg #[.slice (some ⟨g1, 0, none⟩) 2 2, .slice (some ⟨g2, 0, none⟩) 2 2, .slice (some ⟨g3, 0, none⟩) 3 3] ∧ φo = [vCells (some ⟨g1, 0, none⟩) (i64s [1, 3]), vCells (some ⟨g2, 0, none⟩) (i64s [2, 4]), vCells (some ⟨g3, 0, none⟩) (lks PK)]) := by
 refine ConF_of Tryz.func27 rfl 8 (rp 8) rfl rfl ?_; intro w0; refine JC_st [] [] ?_; refine JC_sr ?_; refine JL_alloc z25 (fun b0 => ?_); refine JL_du 8 [box _ _ [_, _, _]] [] ?_; refine JC_sr ?_; refine JL_buildN (cs0 := [.int .i64 0, .int .i64 0]) (cs := [_, _]) [(0, [_]), (1, [_])] sl22 kr ⟨⟨rfl, _, rfl, rfl⟩, ⟨rfl, _, rfl, rfl⟩, rfl⟩ rfl rfl rfl rfl (fun g1 => ?_); refine JL_norm _ [box _ _ [_, _, _], osl _ _ _ _ _ (i64s ([1, 3]))] [] rfl rfl rfl ?_; refine JL_buildN (cs0 := [.int .i64 0, .int .i64 0]) (cs := [_, _]) [(0, [_]), (1, [_])] sl22 kr ⟨⟨rfl, _, rfl, rfl⟩, ⟨rfl, _, rfl, rfl⟩, rfl⟩ rfl rfl rfl rfl (fun g2 => ?_); refine JL_norm _ [box _ _ [_, _, _], osl _ _ _ _ _ _, osl _ _ _ _ _ (i64s ([2, 4]))] [] rfl rfl rfl ?_; refine JL_build (cs := [_, _, _]) [(0, [_]), (1, [_]), (2, [_])] st66 ⟨⟨rfl, _, rfl, rfl⟩, ⟨rfl, _, rfl, rfl⟩, ⟨rfl, _, rfl, rfl⟩, rfl⟩ rfl ?_; refine JL_build (cs := [_, _, _]) [(0, [_]), (1, [_]), (2, [_])] st66 ⟨⟨rfl, _, rfl, rfl⟩, ⟨rfl, _, rfl, rfl⟩, ⟨rfl, _, rfl, rfl⟩, rfl⟩ rfl ?_
 refine JL_build (cs := [_, _, _]) [(0, [_]), (1, [_]), (2, [_])] st66 ⟨⟨rfl, _, rfl, rfl⟩, ⟨rfl, _, rfl, rfl⟩, ⟨rfl, _, rfl, rfl⟩, rfl⟩ rfl ?_; refine JL_buildN (cs0 := [.int .i64 0, .int .i64 0, .int .i64 0, .int .i64 0, .int .i64 0, .int .i64 0, .int .i64 0, .int .i64 0, .int .i64 0]) (cs := [_, _, _, _, _, _, _, _, _]) [(0, [_, _, _]), (1, [_, _, _]), (2, [_, _, _])] sl23 kr ⟨⟨rfl, _, rfl, rfl⟩, ⟨rfl, _, rfl, rfl⟩, ⟨rfl, _, rfl, rfl⟩, rfl⟩ rfl rfl rfl rfl (fun g6 => ?_); refine JL_norm _ [box _ _ [_, _, _], osl _ _ _ _ _ _, osl _ _ _ _ _ _, osl _ _ _ _ _ (lks PK)] [] rfl rfl rfl ?_; refine JL_build (cs := [_, _, _]) [(0, [_]), (1, [_]), (2, [_])] st25 ⟨⟨rfl, _, rfl, rfl⟩, ⟨rfl, _, rfl, rfl⟩, ⟨rfl, _, rfl, rfl⟩, rfl⟩ rfl ?_; refine JL_store (vs := [_, _, _]) 0 ty25 rfl rfl rfl ao3 rfl bleq ?_; refine JL_du 8 [box _ _ [_, _, _], osl _ _ _ _ _ _, osl _ _ _ _ _ _, osl _ _ _ _ _ _] [] ?_; refine JC_ret ?_; refine JE_give 1 rfl ?_; refine JE_norm _ [box _ _ [_, _, _], osl _ _ _ _ _ _, osl _ _ _ _ _ _] [_] rfl rfl rfl ?_; refine JE_give 1 rfl ?_
 refine JE_norm _ [box _ _ [_, _, _], osl _ _ _ _ _ _] [_, _] rfl rfl rfl ?_; refine JE_give 1 rfl ?_; refine JE_norm _ [box _ _ [_, _, _]] [_, _, _] rfl rfl rfl ?_; refine JE_ret (vs := [_]) [vCells (some ⟨g1, 0, none⟩) (i64s [1, 3]), vCells (some ⟨g2, 0, none⟩) (i64s [2, 4]), vCells (some ⟨g6, 0, none⟩) (lks PK)] Tryz.results27 ⟨RV.cell (vs := [_, _, _]) 0 ty25 rfl rfl ⟨rfl, rfl, rfl, trivial⟩, rfl⟩ ?_ ?_
 · exact ⟨g1, g2, g6, rfl, rfl⟩
 · exact (all_cons am (all_cons am (all_cons am all_nil)))

set_option maxHeartbeats 2000000 in
theorem few_con {a1 a2 a3 : Option Addr} {c1 c2 c3 : Nat} {O R : List Int} {K : List Cn.Lk} :
    ConF Tryz.prog 9 [.agg #[.slice a1 O.length c1, .slice a2 R.length c2, .slice a3 K.length c3]] []
      (fun v φo => v = .bool (decide (fewG O R K)) ∧ φo = []) := by
 refine ConF_of Tryz.func9 rfl 41 (_ :: rp 40) rfl rfl ?_; intro w0; refine JC_st [] [] ?_; refine JC_sr ?_; refine JL_box rfl rfl (fun b1 => ?_); refine JL_a ?_; refine JL_du 41 [box _ _ [_, _, _]] [] ?_; refine JC_seq ?_; refine JC_sr ?_; refine JL_fieldAddr fo25_0 rfl ?_; refine JL_load 0 ty22 rfl rfl rfl ?_; refine JL_len sl22 rfl ?_; refine JL_gtr rfl rfl ?_; refine JL_split (fun h6 => ?_) (fun h6 => ?_)
 ·refine JL_m ?_; refine JL_gn ?_; refine JL_gn ?_; refine JL_gn ?_; refine JL_gn ?_; refine JL_pick_t rfl rfl ?_; refine JL_m ?_; refine JL_gn ?_; refine JL_gn ?_; refine JL_gn ?_; refine JL_gn ?_; refine JL_pick_t rfl rfl ?_; refine JL_dv 41 ?_; refine JC_true rfl ?_; refine JC_sr ?_; refine JL_a ?_; refine JL_dv 41 ?_; refine JC_ret ?_; refine JE_then_ret ?_; refine JE_ret (vs := [_]) [] Tryz.results9 ⟨rfl, rfl⟩ ?_ ?_
  · first | (rw [decide_eq_true (p := fewG O R K) (by unfold fewG; omega)]; exact ⟨rfl, rfl⟩) | (rw [decide_eq_false (p := fewG O R K) (by unfold fewG; omega)]; exact ⟨rfl, rfl⟩)
  · exact all_nil
 ·refine JL_m ?_; refine JL_gy ?_; refine JL_fieldAddr fo25_1 rfl ?_; refine JL_gy ?_; refine JL_load 0 ty22 rfl rfl rfl ?_; refine JL_gy ?_; refine JL_len sl22 rfl ?_; refine JL_gy ?_; refine JL_gtr rfl rfl ?_; refine JL_split (fun h11 => ?_) (fun h11 => ?_)
  ·refine JL_pick_f rfl rfl ?_; refine JL_m ?_; refine JL_gn ?_; refine JL_gn ?_; refine JL_gn ?_; refine JL_gn ?_; refine JL_pick_t rfl rfl ?_; refine JL_dv 41 ?_; refine JC_true rfl ?_; refine JC_sr ?_; refine JL_a ?_; refine JL_dv 41 ?_; refine JC_ret ?_; refine JE_then_ret ?_; refine JE_ret (vs := [_]) [] Tryz.results9 ⟨rfl, rfl⟩ ?_ ?_
   · first | (rw [decide_eq_true (p := fewG O R K) (by unfold fewG; omega)]; exact ⟨rfl, rfl⟩) | (rw [decide_eq_false (p := fewG O R K) (by unfold fewG; omega)]; exact ⟨rfl, rfl⟩)
   · exact all_nil
  ·refine JL_pick_f rfl rfl ?_; refine JL_m ?_; refine JL_gy ?_; refine JL_fieldAddr fo25_2 rfl ?_; refine JL_gy ?_; refine JL_load 0 ty23 rfl rfl rfl ?_; refine JL_gy ?_; refine JL_len sl23 rfl ?_; refine JL_gy ?_; refine JL_gtr rfl rfl ?_; refine JL_split (fun h17 => ?_) (fun h17 => ?_)
   ·refine JL_pick_f rfl rfl ?_; refine JL_dv 41 ?_; refine JC_true rfl ?_; refine JC_sr ?_; refine JL_a ?_; refine JL_dv 41 ?_; refine JC_ret ?_; refine JE_then_ret ?_; refine JE_ret (vs := [_]) [] Tryz.results9 ⟨rfl, rfl⟩ ?_ ?_
    · first | (rw [decide_eq_true (p := fewG O R K) (by unfold fewG; omega)]; exact ⟨rfl, rfl⟩) | (rw [decide_eq_false (p := fewG O R K) (by unfold fewG; omega)]; exact ⟨rfl, rfl⟩)
    · exact all_nil
   ·refine JL_pick_f rfl rfl ?_; refine JL_dv 41 ?_; refine JC_false rfl ?_; refine JC_skip ?_; refine JE_then ?_; refine JC_sr ?_; refine JL_fieldAddr fo25_0 rfl ?_; refine JL_load 0 ty22 rfl rfl rfl ?_; refine JL_len sl22 rfl ?_; refine JL_leq rfl rfl ?_; refine JL_split (fun h22 => ?_) (fun h22 => ?_)
    ·refine JL_m ?_; refine JL_gy ?_; refine JL_fieldAddr fo25_1 rfl ?_; refine JL_gy ?_; refine JL_load 0 ty22 rfl rfl rfl ?_; refine JL_gy ?_; refine JL_len sl22 rfl ?_; refine JL_gy ?_; refine JL_leq rfl rfl ?_; refine JL_split (fun h27 => ?_) (fun h27 => ?_)
     ·refine JL_pick_t rfl rfl ?_; refine JL_m ?_; refine JL_gn ?_; refine JL_gn ?_; refine JL_gn ?_; refine JL_gn ?_; refine JL_pick_t rfl rfl ?_; refine JL_m ?_; refine JL_gn ?_; refine JL_gn ?_; refine JL_gn ?_; refine JL_gn ?_; refine JL_pick_t rfl rfl ?_; refine JL_a ?_; refine JL_dv 41 ?_; refine JC_ret ?_; refine JE_ret (vs := [_]) [] Tryz.results9 ⟨rfl, rfl⟩ ?_ ?_
      · first | (rw [decide_eq_true (p := fewG O R K) (by unfold fewG; omega)]; exact ⟨rfl, rfl⟩) | (rw [decide_eq_false (p := fewG O R K) (by unfold fewG; omega)]; exact ⟨rfl, rfl⟩)
      · exact all_nil
     ·refine JL_pick_t rfl rfl ?_; refine JL_m ?_; refine JL_gy ?_; refine JL_fieldAddr fo25_0 rfl ?_; refine JL_gy ?_; refine JL_load 0 ty22 rfl rfl rfl ?_; refine JL_gy ?_; refine JL_len sl22 rfl ?_; refine JL_gy ?_; refine JL_gtr rfl rfl ?_; refine JL_split (fun h33 => ?_) (fun h33 => ?_)
      ·refine JL_pick_f rfl rfl ?_; refine JL_m ?_; refine JL_gn ?_; refine JL_gn ?_; refine JL_gn ?_; refine JL_gn ?_; refine JL_pick_t rfl rfl ?_; refine JL_a ?_; refine JL_dv 41 ?_; refine JC_ret ?_; refine JE_ret (vs := [_]) [] Tryz.results9 ⟨rfl, rfl⟩ ?_ ?_
       · first | (rw [decide_eq_true (p := fewG O R K) (by unfold fewG; omega)]; exact ⟨rfl, rfl⟩) | (rw [decide_eq_false (p := fewG O R K) (by unfold fewG; omega)]; exact ⟨rfl, rfl⟩)
       · exact all_nil
      ·refine JL_pick_f rfl rfl ?_; refine JL_m ?_; refine JL_gy ?_; refine JL_fieldAddr fo25_1 rfl ?_; refine JL_gy ?_; refine JL_load 0 ty22 rfl rfl rfl ?_; refine JL_gy ?_; refine JL_len sl22 rfl ?_; refine JL_gy ?_; refine JL_gtr rfl rfl ?_; refine JL_split (fun h39 => ?_) (fun h39 => ?_)
       ·refine JL_pick_f rfl rfl ?_; refine JL_a ?_; refine JL_dv 41 ?_; refine JC_ret ?_; refine JE_ret (vs := [_]) [] Tryz.results9 ⟨rfl, rfl⟩ ?_ ?_
        · first | (rw [decide_eq_true (p := fewG O R K) (by unfold fewG; omega)]; exact ⟨rfl, rfl⟩) | (rw [decide_eq_false (p := fewG O R K) (by unfold fewG; omega)]; exact ⟨rfl, rfl⟩)
        · exact all_nil
       ·refine JL_pick_f rfl rfl ?_; refine JL_a ?_; refine JL_dv 41 ?_; refine JC_ret ?_; refine JE_ret (vs := [_]) [] Tryz.results9 ⟨rfl, rfl⟩ ?_ ?_
        · first | (rw [decide_eq_true (p := fewG O R K) (by unfold fewG; omega)]; exact ⟨rfl, rfl⟩) | (rw [decide_eq_false (p := fewG O R K) (by unfold fewG; omega)]; exact ⟨rfl, rfl⟩)
        · exact all_nil
    ·refine JL_m ?_; refine JL_gn ?_; refine JL_gn ?_; refine JL_gn ?_; refine JL_gn ?_; refine JL_pick_f rfl rfl ?_; refine JL_m ?_; refine JL_gy ?_; refine JL_fieldAddr fo25_0 rfl ?_; refine JL_gy ?_; refine JL_load 0 ty22 rfl rfl rfl ?_; refine JL_gy ?_; refine JL_len sl22 rfl ?_; refine JL_gy ?_; refine JL_gtr rfl rfl ?_; refine JL_split (fun h33 => ?_) (fun h33 => ?_)
     ·refine JL_pick_f rfl rfl ?_; refine JL_m ?_; refine JL_gn ?_; refine JL_gn ?_; refine JL_gn ?_; refine JL_gn ?_; refine JL_pick_t rfl rfl ?_; refine JL_a ?_; refine JL_dv 41 ?_; refine JC_ret ?_; refine JE_ret (vs := [_]) [] Tryz.results9 ⟨rfl, rfl⟩ ?_ ?_
      · first | (rw [decide_eq_true (p := fewG O R K) (by unfold fewG; omega)]; exact ⟨rfl, rfl⟩) | (rw [decide_eq_false (p := fewG O R K) (by unfold fewG; omega)]; exact ⟨rfl, rfl⟩)
      · exact all_nil
     ·refine JL_pick_f rfl rfl ?_; refine JL_m ?_; refine JL_gy ?_; refine JL_fieldAddr fo25_1 rfl ?_; refine JL_gy ?_; refine JL_load 0 ty22 rfl rfl rfl ?_; refine JL_gy ?_; refine JL_len sl22 rfl ?_; refine JL_gy ?_; refine JL_gtr rfl rfl ?_; refine JL_split (fun h39 => ?_) (fun h39 => ?_)
      ·refine JL_pick_f rfl rfl ?_; refine JL_a ?_; refine JL_dv 41 ?_; refine JC_ret ?_; refine JE_ret (vs := [_]) [] Tryz.results9 ⟨rfl, rfl⟩ ?_ ?_
       · first | (rw [decide_eq_true (p := fewG O R K) (by unfold fewG; omega)]; exact ⟨rfl, rfl⟩) | (rw [decide_eq_false (p := fewG O R K) (by unfold fewG; omega)]; exact ⟨rfl, rfl⟩)
       · exact all_nil
      ·refine JL_pick_f rfl rfl ?_; refine JL_a ?_; refine JL_dv 41 ?_; refine JC_ret ?_; refine JE_ret (vs := [_]) [] Tryz.results9 ⟨rfl, rfl⟩ ?_ ?_
       · first | (rw [decide_eq_true (p := fewG O R K) (by unfold fewG; omega)]; exact ⟨rfl, rfl⟩) | (rw [decide_eq_false (p := fewG O R K) (by unfold fewG; omega)]; exact ⟨rfl, rfl⟩)
       · exact all_nil

set_option maxHeartbeats 2000000 in
theorem awake_con  :
    ConF Tryz.prog 8 [] []
      (fun v φo => v = .bool (true) ∧ φo = []) := by
 refine ConF_of Tryz.func8 rfl 45 (rp 45) rfl rfl ?_; intro w0; refine JC_st [] [] ?_; refine JC_sr ?_; refine JL_a ?_; refine JL_dv 45 ?_; refine JC_sr ?_; refine JL_callF' Asks.nil (path_con) rfl ca27 rfl ?_; rintro _ _ ⟨ga8, gb8, gc8, rfl, rfl⟩; refine JL_callF' (Asks.cons (holds_of_mem am) (Asks.cons (holds_of_mem am) (Asks.cons (holds_of_mem am) Asks.nil))) (Code_con (O := [1, 3]) (R := [2, 4]) (K := PK) (by decide) (by decide) (by decide)) rfl ca10 ⟨rfl, rfl⟩ ?_; rintro _ _ ⟨ad9, c9, B9, rfl, rfl, hB9, hN9, hc9⟩; obtain rfl := ex_code (hB9 ex_err); refine JL_m ?_; refine JL_extract (v := .slice ad9 ([2, 2, 0, 1, 1, 1] : List Int).length c9) rfl rfl ?_; refine JL_extract (v := .int .i64 (errG [1, 3] [2, 4] PK)) rfl rfl ?_; refine JL_a ?_; refine JL_a ?_; refine JL_du 45 [] [_, _, _, _] ?_; refine JC_sr ?_; refine JL_callF' Asks.nil (path_con) rfl ca27 rfl ?_; rintro _ _ ⟨ga13, gb13, gc13, rfl, rfl⟩
 refine JL_callF' (Asks.cons (holds_of_mem am) (Asks.cons (holds_of_mem am) (Asks.cons (holds_of_mem am) Asks.nil))) (name_con (O := [1, 3]) (R := [2, 4]) (K := PK) (by decide) (by decide) (by decide)) rfl ca11 ⟨rfl, rfl⟩ ?_; rintro _ _ ⟨T14, rfl, rfl, hT14, hN14⟩; obtain rfl := ex_name (hT14 ex_err); refine JL_m ?_; refine JL_extract (v := .string (bs [50, 120, 50, 58, 48, 49, 47, 49, 49])) rfl rfl ?_; refine JL_extract (v := .int .i64 (errG [1, 3] [2, 4] PK)) rfl rfl ?_; refine JL_a ?_; refine JL_a ?_; refine JL_du 45 [] [_, _, _, _, _, _, _] ?_; refine JC_sr ?_; refine JL_callF' Asks.nil (path_con) rfl ca27 rfl ?_; rintro _ _ ⟨ga18, gb18, gc18, rfl, rfl⟩; refine JL_callF' (Asks.cons (holds_of_mem am) (Asks.cons (holds_of_mem am) (Asks.cons (holds_of_mem am) Asks.nil))) (sym_con (O := [1, 3]) (R := [2, 4]) (K := PK) (by decide) (by decide) (by decide)) rfl ca12 ⟨rfl, rfl⟩ ?_; rintro _ _ ⟨n19, rfl, rfl, hn19⟩; rw [if_pos ex_err, ex_sym] at hn19; subst hn19; refine JL_m ?_; refine JL_extract (v := .int .i64 ((1 : Nat) : Int)) rfl rfl ?_; refine JL_extract (v := .int .i64 (errG [1, 3] [2, 4] PK)) rfl rfl ?_
 refine JL_a ?_; refine JL_a ?_; refine JL_du 45 [] [_, _, _, _, _, _, _, _, _, _] ?_; refine JC_sr ?_; refine JL_m ?_; refine JL_eql rfl rfl ?_; refine JL_split (fun h23 => ?_) (fun h23 => ?_)
 ·refine JL_m ?_; refine JL_gy ?_; refine JL_m ?_; refine JL_gy ?_; refine JL_buildN (cs0 := [.int .i64 0, .int .i64 0, .int .i64 0, .int .i64 0, .int .i64 0, .int .i64 0]) (cs := [_, _, _, _, _, _]) [(0, [_]), (1, [_]), (2, [_]), (3, [_]), (4, [_]), (5, [_])] sl22 kr ⟨⟨rfl, _, rfl, rfl⟩, ⟨rfl, _, rfl, rfl⟩, ⟨rfl, _, rfl, rfl⟩, ⟨rfl, _, rfl, rfl⟩, ⟨rfl, _, rfl, rfl⟩, ⟨rfl, _, rfl, rfl⟩, rfl⟩ rfl rfl rfl rfl (fun g26 => ?_); refine JL_norm _ [osl _ _ _ _ _ (i64s ([2, 2, 0, 1, 1, 1]))] [_, _, _, _, _, _, _, _, _, _] rfl rfl rfl ?_; refine JL_gy ?_; refine JL_callF' (Asks.cons (by first | exact holds_of_mem am | (exact holds_of_own 0 rfl)) (Asks.cons (by first | exact holds_of_mem am | (exact holds_of_own 0 rfl)) Asks.nil)) (bint_con (L := [2, 2, 0, 1, 1, 1]) (M := [2, 2, 0, 1, 1, 1]) (by decide) (by decide)) rfl ca16 ⟨rfl, rfl, rfl⟩ ?_; rintro _ _ ⟨rfl, rfl⟩; refine JL_split (fun h27 => ?_) (fun h27 => ?_)
  ·refine JL_pick_t rfl rfl ?_; refine JL_m ?_; refine JL_gy ?_; refine JL_m ?_; refine JL_gy ?_; refine JL_eql rfl rfl ?_; refine JL_split (fun h31 => ?_) (fun h31 => ?_)
   ·refine JL_pick_t rfl rfl ?_; refine JL_m ?_; refine JL_gy ?_; refine JL_m ?_; refine JL_gy ?_; refine JL_eqlS rfl rfl ?_; refine JL_splitV (fun h35 => ?_) (fun h35 => ?_)
    ·refine JL_pick_t rfl rfl ?_; refine JL_m ?_; refine JL_gy ?_; refine JL_m ?_; refine JL_gy ?_; refine JL_eql rfl rfl ?_; refine JL_split (fun h39 => ?_) (fun h39 => ?_)
     ·refine JL_pick_t rfl rfl ?_; refine JL_m ?_; refine JL_gy ?_; refine JL_m ?_; refine JL_gy ?_; refine JL_eql rfl rfl ?_; refine JL_split (fun h43 => ?_) (fun h43 => ?_)
      ·refine JL_pick_t rfl rfl ?_; refine JL_a ?_; refine JL_du 45 [osl _ _ _ _ _ _] [_, _, _, _, _, _, _, _, _, _] ?_; refine JC_ret ?_; refine JE_ret (vs := [_]) [] Tryz.results8 ⟨rfl, rfl⟩ ?_ ?_
       · exact ⟨rfl, rfl⟩
       · exact all_nil
      · exact absurd rfl h43
     · exact absurd ex_err h39
    · exact absurd (show ((bs [50, 120, 50, 58, 48, 49, 47, 49, 49]).toList == (bs [50, 120, 50, 58, 48, 49, 47, 49, 49]).toList) = false from h35) (by rw [bs_beq_true rfl]; decide)
   · exact absurd ex_err h31
  · exact absurd rfl h27
 · exact absurd ex_err h23

end Go.Fw.K
