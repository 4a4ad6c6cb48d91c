/- Walks through functions of the given program: each meets its contract. (Printed by a program of this repo.) -/
import Derived.Test.YtjkbamfcoiikmaaGreatDoorNC
import Derived.Test.YtjkbamfcoiikmaaGreatDoorRfFG
import Derived.Test.YtjkbamfcoiikmaaGreatDoorME
import Derived.Test.YtjkbamfcoiikmaaGreatDoorProg
namespace Go.Fw.ND
open Go Go.RowKit Go.Proofs Go.Nat9 Go.Fw
attribute [local irreducible] JC JL JE
theorem ca20 : callable Tryz.prog 20 = true := by kernel_rfl
theorem ca54 : callable Tryz.prog 54 = true := by kernel_rfl
theorem ca55 : callable Tryz.prog 55 = true := by kernel_rfl
theorem ca68 : callable Tryz.prog 68 = true := by kernel_rfl
theorem ca93 : callable Tryz.prog 93 = true := by kernel_rfl
theorem fo66_0 : fOf Tryz.prog 66 0 = some 0 := by kernel_rfl
theorem fo66_1 : fOf Tryz.prog 66 1 = some 1 := by kernel_rfl
theorem fo66_2 : fOf Tryz.prog 66 2 = some 2 := by kernel_rfl
theorem fo69_0 : fOf Tryz.prog 69 0 = some 0 := by kernel_rfl
theorem fo69_1 : fOf Tryz.prog 69 1 = some 1 := by kernel_rfl
theorem mixed : Tryz.prog.follows .mixedOrders = true := by kernel_rfl
theorem pt25 : Tryz.prog.underlying 25 = some (.pointer (Tryz.prog.pointee 25)) := by kernel_rfl
theorem pt29 : Tryz.prog.underlying 29 = some (.pointer (Tryz.prog.pointee 29)) := by kernel_rfl
theorem sl32 : slOf Tryz.prog 32 = some (3, 1, 8, [.int .i64 0]) := by kernel_rfl
theorem sl64 : slOf Tryz.prog 64 = some (66, 3, 40, [.int .i64 0, .int .i64 0, .slice none 0 0]) := by kernel_rfl
theorem st39 : stOf Tryz.prog 39 = some ([(0, 1)], [.slice none 0 0]) := by kernel_rfl
theorem ty3 : tyOf Tryz.prog 3 = some (false, 1) := by kernel_rfl
theorem ty39 : tyOf Tryz.prog 39 = some (true, 1) := by kernel_rfl
theorem ty64 : tyOf Tryz.prog 64 = some (false, 1) := by kernel_rfl
theorem ty66 : tyOf Tryz.prog 66 = some (true, 3) := by kernel_rfl
theorem z39 : zeroOf Tryz.prog 39 = some [.slice none 0 0] := by kernel_rfl
end Go.Fw.ND
namespace Go.Fw.K
open Go Go.RowKit Go.Proofs Go.Nat9 Go.Fw Go.Fw.ND
attribute [local irreducible] JC JL JE

open Go.Fw.Pq
set_option maxHeartbeats 1000000 in
theorem rorder_con {ad : Option Addr} {c : Nat} {L : List Int} (hL : L.length ≤ 1000) {n : Nat} :
    ConF Tryz.prog 54 [.slice ad L.length c, .int .i64 (n : Nat)] [vCells ad (i64s L)]
      (fun v φo => ∃ b : Bool, v = .bool b ∧ φo = [] ∧ (b = true ↔ isOrd n L)) := by
 refine ConF_of Tryz.func54 rfl 43 (_ :: _ :: rp 41) rfl rfl ?_; intro w0; refine JC_st [] [_] ?_; refine JC_sr ?_; refine JL_a ?_; refine JL_dv 43 ?_; refine JC_seq ?_; refine JC_sr ?_; refine JL_m ?_; refine JL_len sl32 rfl ?_; refine JL_m ?_; refine JL_neq rfl rfl ?_; refine JL_split (fun h10 => ?_) (fun h10 => ?_)
 ·refine JL_dv 43 ?_; refine JC_true rfl ?_; refine JC_sr ?_; refine JL_a ?_; refine JL_dv 43 ?_; refine JC_ret ?_; refine JE_then_ret ?_; refine JE_ret (vs := [_]) [] Tryz.results54 ⟨rfl, rfl⟩ ?_ ?_
  · exact ⟨false, rfl, rfl, fun e => absurd e (by decide), fun h => absurd h.len (by omega)⟩
  · exact all_nil
 ·refine JL_dv 43 ?_; refine JC_false rfl ?_; refine JC_skip ?_; refine JE_then ?_; refine JC_seq ?_; refine JC_sr ?_; refine JL_a ?_; refine JL_dv 43 ?_; refine JC_block ?_; refine JC_loopS ((Nat)) (fun (i : Nat) => i ≤ n ∧ ordOk n L i) (fun (i : Nat) => n - i) (fun u (i : Nat) => (rn 4 (some (u 4) :: some (.int .i64 (i : Nat)) :: some (u 6) :: rn 4 (sc u 11 32 [])))) (fun (i : Nat) => []) (fun (i : Nat) => []) (0) (by kernel_rfl) ?_ (by kernel_rfl) ?_ ?_
  · exact ⟨Nat.zero_le _, ordOk.zero _ _⟩
  · exact subset_nil
  intro u i hC; obtain ⟨hi, ho⟩ := hC; refine JC_nm 43 [] [_] ?_; refine JC_seq ?_; refine JC_sr ?_; refine JL_m ?_; refine JL_m ?_; refine JL_lss rfl rfl ?_; refine JL_split (fun h13 => ?_) (fun h13 => ?_)
  ·refine JL_dv 43 ?_; refine JC_true rfl ?_; refine JC_skip ?_; refine JE_then ?_; refine JC_seq ?_; refine JC_block ?_; refine JC_seq ?_; refine JC_sr ?_; refine JL_m ?_; refine JL_m ?_; refine JL_idx i sl32 rfl rfl rfl (by omega) (by first | exact Reads.view am) (by first | (rw [u32s_length]; omega) | (rw [i64s_length]; omega)) ?_; refine JL_loadE ty3 rfl (by first | exact Reads.view am) (i64s_get (by omega)) ?_; refine JL_lss rfl rfl ?_; refine JL_split (fun h20 => ?_) (fun h20 => ?_)
   ·refine JL_m ?_; refine JL_gn ?_; refine JL_gn ?_; refine JL_gn ?_; refine JL_gn ?_; refine JL_gn ?_; refine JL_gn ?_; refine JL_pick_t rfl rfl ?_; refine JL_dv 43 ?_; refine JC_true rfl ?_; refine JC_sr ?_; refine JL_a ?_; refine JL_dv 43 ?_; refine JC_ret ?_; refine JE_then_ret ?_; refine JE_block_ret ?_; refine JE_then_ret ?_; refine JE_nextS_ret ?_; refine JE_block_ret ?_; refine JE_then_ret ?_; refine JE_ret (vs := [_]) [] Tryz.results54 ⟨rfl, rfl⟩ ?_ ?_
    · exact ⟨false, rfl, rfl, fun e => absurd e (by decide), fun h => absurd (h.bd (i := i) (by omega)) (by omega)⟩
    · exact all_nil
   ·refine JL_m ?_; refine JL_gy ?_; refine JL_m ?_; refine JL_gy ?_; refine JL_m ?_; refine JL_gy ?_; refine JL_idx i sl32 rfl rfl rfl (by omega) (by first | exact Reads.view am) (by first | (rw [u32s_length]; omega) | (rw [i64s_length]; omega)) ?_; refine JL_gy ?_; refine JL_loadE ty3 rfl (by first | exact Reads.view am) (i64s_get (by omega)) ?_; refine JL_gy ?_; refine JL_m ?_; refine JL_gy ?_; refine JL_geq rfl rfl ?_; refine JL_split (fun h27 => ?_) (fun h27 => ?_)
    ·refine JL_pick_f rfl rfl ?_; refine JL_dv 43 ?_; refine JC_true rfl ?_; refine JC_sr ?_; refine JL_a ?_; refine JL_dv 43 ?_; refine JC_ret ?_; refine JE_then_ret ?_; refine JE_block_ret ?_; refine JE_then_ret ?_; refine JE_nextS_ret ?_; refine JE_block_ret ?_; refine JE_then_ret ?_; refine JE_ret (vs := [_]) [] Tryz.results54 ⟨rfl, rfl⟩ ?_ ?_
     · exact ⟨false, rfl, rfl, fun e => absurd e (by decide), fun h => absurd (h.bd (i := i) (by omega)) (by omega)⟩
     · exact all_nil
    ·refine JL_pick_f rfl rfl ?_; refine JL_dv 43 ?_; refine JC_false rfl ?_; refine JC_skip ?_; refine JE_then ?_; refine JC_sr ?_; refine JL_a ?_; refine JL_dv 43 ?_; refine JC_block ?_; refine JC_loopS ((Nat)) (fun (k : Nat) => k ≤ i ∧ ∀ j, j < k → L.getD i 0 ≠ L.getD j 0) (fun (k : Nat) => i - k) (fun u (k : Nat) => (rn 4 (some (u 4) :: none :: some (.int .i64 (k : Nat)) :: rn 22 (sc u 29 14 [])))) (fun (k : Nat) => []) (fun (k : Nat) => []) (0) (by kernel_rfl) ?_ (by kernel_rfl) ?_ ?_
     · exact ⟨Nat.zero_le _, fun j hj => absurd hj (Nat.not_lt_zero _)⟩
     · exact subset_nil
     intro u k hC; obtain ⟨hk, hne⟩ := hC; refine JC_nm 43 [] [_] ?_; refine JC_seq ?_; refine JC_sr ?_; refine JL_m ?_; refine JL_m ?_; refine JL_lss rfl rfl ?_; refine JL_split (fun h31 => ?_) (fun h31 => ?_)
     ·refine JL_dv 43 ?_; refine JC_true rfl ?_; refine JC_skip ?_; refine JE_then ?_; refine JC_seq ?_; refine JC_block ?_; refine JC_seq ?_; refine JC_drawT mixed 8 [spV 34 [] _, spV 35 [] _, spV 36 [0, 1] _, spV 37 [2] _, spV 38 [] _, spV 39 [] _, spV 40 [4, 5] _, spV 41 [6] _] ⟨oM, oM, OblS_V (fun vals ex ψ => (by refine JL_normQ _ (_ :: ψ) rfl rfl ?_; refine JL_idx i sl32 rfl rfl rfl (by omega) (by first | exact Reads.view am) (by first | (rw [u32s_length]; omega) | (rw [i64s_length]; omega)) ?_; exact vz rfl)), OblS_V (fun vals ex ψ => (by refine JL_normQ _ (_ :: ψ) rfl rfl ?_; refine JL_loadE ty3 rfl (by first | exact Reads.view am) (i64s_get (by omega)) ?_; exact vz rfl)), oM, oM, OblS_V (fun vals ex ψ => (by refine JL_normQ _ (_ :: ψ) rfl rfl ?_; refine JL_idx k sl32 rfl rfl rfl (by omega) (by first | exact Reads.view am) (by first | (rw [u32s_length]; omega) | (rw [i64s_length]; omega)) ?_; exact vz rfl)), OblS_V (fun vals ex ψ => (by refine JL_normQ _ (_ :: ψ) rfl rfl ?_; refine JL_loadE ty3 rfl (by first | exact Reads.view am) (i64s_get (by omega)) ?_; exact vz rfl)), trivial⟩ (by kernel_rfl) (fun vals bs => ?_)
      refine JL_normL [_] ⟨43, [(34, _), (35, _), (36, _), (37, _), (38, _), (39, _), (40, _), (41, _)], _⟩ [] [_] rfl rfl rfl rfl ?_; refine JL_eql rfl rfl ?_; refine JL_split (fun h42 => ?_) (fun h42 => ?_)
      ·refine JL_du 43 [] [_] ?_; refine JC_true rfl ?_; refine JC_sr ?_; refine JL_a ?_; refine JL_dv 43 ?_; refine JC_ret ?_; refine JE_block_ret ?_; refine JE_then_ret ?_; refine JE_nextS_ret ?_; refine JE_block_ret ?_; refine JE_block_ret ?_; refine JE_then_ret ?_; refine JE_nextS_ret ?_; refine JE_block_ret ?_; refine JE_then_ret ?_; refine JE_ret (vs := [_]) [] Tryz.results54 ⟨rfl, rfl⟩ ?_ ?_
       · exact ⟨false, rfl, rfl, fun e => absurd e (by decide), fun h => absurd (h.inj (i := i) (j := k) (by omega) (by omega) h42) (by omega)⟩
       · exact all_nil
      ·refine JL_du 43 [] [_] ?_; refine JC_false rfl ?_; refine JC_skip ?_; refine JE_block_normal ?_; refine JE_then ?_; refine JC_region ?_; refine JL_m ?_; refine JL_add_to rfl rfl (IntWalk.i64_in _ (by omega)) ?_; refine JL_a ?_; refine JL_nv 43 ?_; refine JE_nextS (k + 1) (by kernel_rfl) ?_ ?_ (by kernel_rfl) ?_
       · exact ⟨by omega, fun j hj => by
         rcases Nat.lt_or_ge j k with h | h
         · exact hne j h
         · obtain rfl : j = k := by omega
           exact h42⟩
       · first | omega | (dsimp only; omega)
       · exact subset_app subset_nil ss0
     ·refine JL_dv 43 ?_; refine JC_false rfl ?_; refine JC_exit ?_; refine JE_then_exit ?_; refine JE_nextS_exit ?_; refine JE_block_exit ?_; refine JE_block_normal ?_; refine JE_then ?_; refine JC_region ?_; refine JL_m ?_; refine JL_add_to rfl rfl (IntWalk.i64_in _ (by omega)) ?_; refine JL_a ?_; refine JL_nv 43 ?_; refine JE_nextS (i + 1) (by kernel_rfl) ?_ ?_ (by kernel_rfl) ?_
      · exact ⟨by omega, ho.step (by omega) (by omega) (fun j hj => hne j (by omega))⟩
      · first | omega | (dsimp only; omega)
      · exact subset_app subset_nil ss0
  ·refine JL_dv 43 ?_; refine JC_false rfl ?_; refine JC_exit ?_; refine JE_then_exit ?_; refine JE_nextS_exit ?_; refine JE_block_exit ?_; refine JE_then ?_; refine JC_sr ?_; refine JL_a ?_; refine JL_dv 43 ?_; refine JC_ret ?_; refine JE_ret (vs := [_]) [] Tryz.results54 ⟨rfl, rfl⟩ ?_ ?_
   · exact ⟨true, rfl, rfl, fun _ => ho.ord (by omega) (by omega), fun _ => rfl⟩
   · exact all_nil

set_option maxHeartbeats 1000000 in
theorem rreach_con0 {adr : Option Addr} {cr : Nat} {p : List Nat} (hp : p.length ≤ 1000) {t : AT} (hw : AlwH p t)
    (IH : ∀ k ∈ t.kids, ConF Tryz.prog 93 [nval k, .slice adr (zs p).length cr] [vCells adr (i64s (zs p)), vN k] (fun v φo => ∃ lo hi : Nat, v = .tuple #[.int .i64 (lo : Nat), .int .i64 (hi : Nat)] ∧ φo = [] ∧ Rch p (lvs (er (k))) lo hi)) :
    ConF Tryz.prog 93 [nval t, .slice adr (zs p).length cr] [vCells adr (i64s (zs p)), vN t]
      (fun v φo => ∃ lo hi : Nat, v = .tuple #[.int .i64 (lo : Nat), .int .i64 (hi : Nat)] ∧ φo = [] ∧ Rch p (lvs (er (t))) lo hi) := by
 have hzl := zs_length p
 have hln := fitL hw.fit
 refine ConF_of Tryz.func93 rfl 57 (_ :: _ :: rp 55) rfl rfl ?_; intro w0; refine JC_st [] [_, _] ?_; refine JC_sr ?_; refine JL_box rfl rfl (fun b2 => ?_); refine JL_a ?_; refine JL_a ?_; refine JL_du 57 [box _ _ [_, _, _]] [_, _] ?_; refine JC_seq ?_; refine JC_seq ?_; refine JC_nOpen (f := false) (t := t) am ?_; refine JC_region ?_; refine JL_fieldAddr fo66_0 rfl ?_; refine JL_load 0 ty3 rfl rfl rfl ?_; refine JL_eql rfl rfl ?_; refine JL_dv 57 ?_; refine JC_cutT (Unit) (fun _ => t.kids.length ≠ 0) (fun u _ => (rn 4 (sc u 4 3 (rn 8 (sc u 15 15 []))))) (fun _ => []) (fun _ => []) ?_ ?_
 ·refine JC_cond rfl (fun hb => ?_) (fun hb => ?_)
  ·have h14 := of_decide_eq_true hb
   refine JC_sr ?_; refine JL_a ?_; refine JL_dv 57 ?_; refine JC_block ?_; refine JC_loopS ((Nat)) (fun (i : Nat) => i ≤ p.length ∧ ∀ j, j < i → (zs p).getD j 0 ≠ (t.col : Int)) (fun (i : Nat) => p.length - i) (fun u (i : Nat) => (rn 4 (sc u 4 2 (some (.int .i64 (i : Nat)) :: rn 8 (sc u 15 15 []))))) (fun (i : Nat) => []) (fun (i : Nat) => []) (0) (by kernel_rfl) ?_ (by kernel_rfl) ?_ ?_
   · exact ⟨Nat.zero_le _, fun j hj => absurd hj (Nat.not_lt_zero _)⟩
   · exact subset_nil
   intro u i hC; obtain ⟨hi, hno⟩ := hC; refine JC_nm 57 [box _ _ [_, _, _]] [_, _, _, _] ?_; refine JC_seq ?_; refine JC_sr ?_; refine JL_m ?_; refine JL_m ?_; refine JL_len sl32 rfl ?_; refine JL_lss rfl rfl ?_; refine JL_split (fun h18 => ?_) (fun h18 => ?_)
   ·refine JL_dv 57 ?_; refine JC_true rfl ?_; refine JC_skip ?_; refine JE_then ?_; refine JC_seq ?_; refine JC_block ?_; refine JC_seq ?_; refine JC_drawT mixed 6 [spV 21 [] _, spV 22 [] _, spV 23 [0, 1] _, spV 24 [2] _, spV 25 [] _, spV 26 [4] _] ⟨oM, oM, OblS_V (fun vals ex ψ => (by refine JL_normQ _ (_ :: _ :: _ :: _ :: ψ) rfl rfl ?_; refine JL_idx i sl32 rfl rfl rfl (by omega) (by first | exact Reads.view am) (by first | (rw [u32s_length]; omega) | (rw [i64s_length]; omega)) ?_; exact vz rfl)), OblS_V (fun vals ex ψ => (by refine JL_normQ _ (_ :: _ :: _ :: _ :: ψ) rfl rfl ?_; refine JL_loadE ty3 rfl (by first | exact Reads.view am) (i64s_get (by omega)) ?_; exact vz rfl)), OblS_V (fun vals ex ψ => (by refine JL_normQ _ (_ :: _ :: _ :: _ :: ψ) rfl rfl ?_; refine JL_fieldAddr fo66_1 rfl ?_; exact vz rfl)), OblS_V (fun vals ex ψ => (by refine JL_normQ _ (_ :: _ :: _ :: _ :: ψ) rfl rfl ?_; refine JL_load 0 ty3 rfl rfl rfl ?_; exact vz rfl)), trivial⟩ (by kernel_rfl) (fun vals bs => ?_)
    refine JL_normL [_] ⟨57, [(21, _), (22, _), (23, _), (24, _), (25, _), (26, _)], _⟩ [box _ _ [_, _, _]] [_, _, _, _] rfl rfl rfl rfl ?_; refine JL_eql rfl rfl ?_; refine JL_split (fun h27 => ?_) (fun h27 => ?_)
    ·refine JL_du 57 [box _ _ [_, _, _]] [_, _, _, _] ?_; refine JC_true rfl ?_; refine JC_sr ?_; refine JL_m ?_; refine JL_m ?_; refine JL_a ?_; refine JL_a ?_; refine JL_dv 57 ?_; refine JC_ret ?_; refine JE_block_ret ?_; refine JE_then_ret ?_; refine JE_nextS_ret ?_; refine JE_block_ret ?_; refine JE_midS_ret ?_; refine JE_ret (vs := [_, _]) [] Tryz.results93 ⟨rfl, rfl, rfl⟩ ?_ ?_
     · exact ⟨i, i, rfl, rfl, by rw [er_lf (kd_zero.1 h14)]; exact rch_leaf hw.nd (by omega) h27⟩
     · exact all_nil
    ·refine JL_du 57 [box _ _ [_, _, _]] [_, _, _, _] ?_; refine JC_false rfl ?_; refine JC_skip ?_; refine JE_block_normal ?_; refine JE_then ?_; refine JC_region ?_; refine JL_m ?_; refine JL_add_to rfl rfl (IntWalk.i64_in _ (by omega)) ?_; refine JL_a ?_; refine JL_nv 57 ?_; refine JE_nextS (i + 1) (by kernel_rfl) ?_ ?_ (by kernel_rfl) ?_
     · exact ⟨by omega, fun j hj => by
       rcases Nat.lt_or_ge j i with h | h
       · exact hno j h
       · obtain rfl : j = i := by omega
         exact h27⟩
     · first | omega | (dsimp only; omega)
     · exact subset_app subset_nil ss0
   ·refine JL_dv 57 ?_; refine JC_false rfl ?_; refine JC_exit ?_; refine JE_then_exit ?_; refine JE_nextS_exit ?_; refine JE_block_exit ?_; refine JE_midS (()) (by kernel_rfl) ?_ (by kernel_rfl) ?_
    · exact absurd (hw.sub t.col (by rw [er_lf (kd_zero.1 h14)]; exact List.mem_cons_self)) (zsA_out fun j hj => hno j (by omega))
    · exact subset_app subset_nil ss0
  ·have h14 := of_decide_eq_false hb
   refine JC_skip ?_; refine JE_midS (()) (by kernel_rfl) ?_ (by kernel_rfl) ?_
   · exact fun e => h14 (kd_zero.2 e)
   · exact subset_app subset_nil ss0
 intro u i hk0; refine JC_nm 57 [box _ _ [_, _, _]] [_, _, _, _] ?_; refine JC_sr ?_; refine JL_m ?_; refine JL_len sl32 rfl ?_; refine JL_a ?_; refine JL_a ?_; refine JL_dv 57 ?_; refine JC_seq ?_; refine JC_sr ?_; refine JL_a ?_; refine JL_dv 57 ?_; refine JC_block ?_; refine JC_loopS ((Nat) × (Int) × (Int)) (fun (i, lo, hi2) => i ≤ t.kids.length ∧ RI p t.kids i lo hi2) (fun (i, lo, hi2) => t.kids.length - i) (fun u (i, lo, hi2) => (rn 7 (some (.int .i64 lo) :: some (.int .i64 hi2) :: some (.int .i64 (i : Nat)) :: sc u 10 2 (rn 20 (sc u 32 23 []))))) (fun (i, lo, hi2) => []) (fun (i, lo, hi2) => []) (0, ((zs p).length : Int), -1) (by kernel_rfl) ?_ (by kernel_rfl) ?_ ?_
 · exact ⟨Nat.zero_le _, by rw [hzl]; exact RI.zero _ _⟩
 · exact subset_nil
 intro u i hC; obtain ⟨i, lo, hi2⟩ := i; obtain ⟨hi, hR⟩ := hC; refine JC_nm 57 [box _ _ [_, _, _]] [_, _, _, _] ?_; refine JC_seq ?_; refine JC_sr ?_; refine JL_m ?_; refine JL_fieldAddr fo66_2 rfl ?_; refine JL_load 0 ty64 rfl rfl rfl ?_; refine JL_len sl64 rfl ?_; refine JL_lss rfl rfl ?_; refine JL_split (fun h36 => ?_) (fun h36 => ?_)
 ·refine JL_dv 57 ?_; refine JC_true rfl ?_; refine JC_skip ?_; refine JE_then ?_; refine JC_seq ?_; refine JC_block ?_; refine JC_sr ?_; refine JL_fieldAddr fo66_2 rfl ?_; refine JL_load 0 ty64 rfl rfl rfl ?_; refine JL_m ?_; refine JL_indexAddr i sl64 rfl rfl rfl (by omega) (by first | exact Reads.view am) (by rw [ncL_len]; omega) ?_; refine JL_loadEA (vs := [_, _, _]) ty66 (Nat.zero_lt_succ _) rfl (by first | exact Reads.view am) (ncL_getA (by omega)) ?_; refine JL_m ?_; refine JL_callF' (Asks.cons (holds_of_mem am) (Asks.cons (holds_of_mem am) Asks.nil)) (conN1 (IH (t.kids.getD i default) (at_mem (l := t.kids) (i := i) (by omega))) (at_mem (l := t.kids) (i := i) (by omega))) rfl ca93 ⟨rfl, rfl, rfl⟩ ?_; rintro _ _ ⟨lo46, hi46, rfl, rfl, hr46⟩; refine JL_m ?_; refine JL_extract (v := .int .i64 (lo46 : Nat)) rfl rfl ?_; refine JL_extract (v := .int .i64 (hi46 : Nat)) rfl rfl ?_; refine JL_a ?_; refine JL_a ?_; refine JL_du 57 [box _ _ [_, _, _]] [_, _, _, _] ?_; refine JC_sr ?_; refine JL_m ?_; refine JL_m ?_; refine JL_min rfl rfl ?_; refine JL_a ?_; refine JL_dv 57 ?_
  refine JC_region ?_; refine JL_m ?_; refine JL_m ?_; refine JL_max rfl rfl ?_; refine JL_a ?_; refine JL_nv 57 ?_; refine JE_block_normal ?_; refine JE_then ?_; refine JC_region ?_; refine JL_m ?_; refine JL_add_to rfl rfl (IntWalk.i64_in _ (by omega)) ?_; refine JL_a ?_; refine JL_nv 57 ?_; refine JE_nextS (i + 1, if ((lo46 : Nat) : Int) < lo then ((lo46 : Nat) : Int) else lo, if hi2 < ((hi46 : Nat) : Int) then ((hi46 : Nat) : Int) else hi2) (by kernel_rfl) ?_ ?_ (by kernel_rfl) ?_
  · exact ⟨by omega, hR.step (by omega) (hw.kid (at_mem (l := t.kids) (i := i) (by omega))).sub hr46⟩
  · first | omega | (dsimp only; omega)
  · exact subset_app subset_nil ss0
 ·refine JL_dv 57 ?_; refine JC_false rfl ?_; refine JC_exit ?_; refine JE_then_exit ?_; refine JE_nextS_exit ?_; refine JE_block_exit ?_; refine JE_then ?_; refine JC_seq ?_; obtain ⟨a, b, rfl, rfl, hRR⟩ := hR.done hk0 (by omega); refine JC_region ?_; refine JL_m ?_; refine JL_m ?_; refine JL_a ?_; refine JL_a ?_; refine JL_dv 57 ?_; refine JC_ret ?_; refine JE_ret (vs := [_, _]) [] Tryz.results93 ⟨rfl, rfl, rfl⟩ ?_ ?_
  · exact ⟨a, b, rfl, rfl, hRR⟩
  · exact all_nil

theorem rreach_con {adr : Option Addr} {cr : Nat} {p : List Nat} (hp : p.length ≤ 1000) (t : AT) : AlwH p t → ConF Tryz.prog 93 [nval t, .slice adr (zs p).length cr] [vCells adr (i64s (zs p)), vN t] (fun v φo => ∃ lo hi : Nat, v = .tuple #[.int .i64 (lo : Nat), .int .i64 (hi : Nat)] ∧ φo = [] ∧ Rch p (lvs (er (t))) lo hi) := by
  induction t using AT.indP with
  | h t ih => exact fun hw => rreach_con0 hp hw fun k hk => ih k hk (hw.kid hk)

set_option maxHeartbeats 2000000 in
theorem rallow_con0 {adr : Option Addr} {cr : Nat} {p : List Nat} (hp : p.length ≤ 1000) {t : AT} (hw : AlwH p t) (hL : (lvs (er t)).length ≤ 1000)
    (IH : ∀ k ∈ t.kids, ConF Tryz.prog 55 [nval k, .slice adr (zs p).length cr] [vCells adr (i64s (zs p)), vN k] (fun v φo => ∃ b : Bool, v = .bool b ∧ φo = [] ∧ (b = true ↔ Fits p (er (k))))) :
    ConF Tryz.prog 55 [nval t, .slice adr (zs p).length cr] [vCells adr (i64s (zs p)), vN t]
      (fun v φo => ∃ b : Bool, v = .bool b ∧ φo = [] ∧ (b = true ↔ Fits p (er (t)))) := by
 have hzl := zs_length p
 have hln := fitL hw.fit
 refine ConF_of Tryz.func55 rfl 95 (_ :: _ :: rp 93) rfl rfl ?_; intro w0; refine JC_st [] [_, _] ?_; refine JC_sr ?_; refine JL_box rfl rfl (fun b2 => ?_); refine JL_a ?_; refine JL_du 95 [box _ _ [_, _, _]] [_, _] ?_; refine JC_seq ?_; refine JC_seq ?_; refine JC_nOpen (f := false) (t := t) am ?_; refine JC_region ?_; refine JL_fieldAddr fo66_0 rfl ?_; refine JL_load 0 ty3 rfl rfl rfl ?_; refine JL_eql rfl rfl ?_; refine JL_split (fun h18 => ?_) (fun h18 => ?_)
 ·refine JL_dv 95 ?_; refine JC_true rfl ?_; refine JC_sr ?_; refine JL_a ?_; refine JL_dv 95 ?_; refine JC_ret ?_; refine JE_then_ret ?_; refine JE_ret (vs := [_]) [] Tryz.results55 ⟨rfl, rfl⟩ ?_ ?_
  · exact ⟨true, rfl, rfl, fun _ => by rw [er_lf (kd_zero.1 h18)]; exact fits_leaf (hw.sub _ (by rw [er_lf (kd_zero.1 h18)]; exact List.mem_cons_self)), fun _ => rfl⟩
  · exact all_nil
 ·refine JL_dv 95 ?_; refine JC_false rfl ?_; refine JC_skip ?_; refine JE_then ?_; refine JC_seq ?_
  have hk0 : t.kids.length ≠ 0 := fun e => h18 (kd_zero.2 e)
  have hN := nA_kn hk0
  refine JC_addView (p := vCells none (i64s [])) (f := false) (fun _ _ j u hj => by simp [i64s] at hj) ?_; refine JC_region ?_; refine JL_loadA (vs := [_, _, _]) 0 ty66 rfl rfl ⟨rfl, rfl, rfl, trivial⟩ ?_; refine JL_callF' (Asks.cons (holds_of_mem am) (Asks.cons (holds_of_mem am) Asks.nil)) (rcount_con (adr := none) (cr := 0) (R := []) (Nat.zero_le _) t hw.fit hL) rfl ca68 ⟨rfl, rfl, rfl⟩ ?_; rintro _ _ ⟨rfl, rfl⟩; refine JL_m ?_; refine JL_extract (v := .int .i64 ((lvs (er t)).length : Nat)) rfl rfl ?_; refine JL_extract (v := .int .i64 (cS (inI []) (er t) : Nat)) rfl rfl ?_; refine JL_a ?_; refine JL_a ?_; refine JL_du 95 [box _ _ [_, _, _]] [_, _, _, _, _] ?_; refine JC_sr ?_; refine JL_loadA (vs := [_, _, _]) 0 ty66 rfl rfl ⟨rfl, rfl, rfl, trivial⟩ ?_; refine JL_m ?_; refine JL_callF' (Asks.cons (holds_of_mem am) (Asks.cons (holds_of_mem am) Asks.nil)) (rreach_con hp t hw) rfl ca93 ⟨rfl, rfl, rfl⟩ ?_; rintro _ _ ⟨lo27, hi27, rfl, rfl, hr27⟩
  have hle := hr27.le
  have hlt := hr27.lt hw.sub
  refine JL_m ?_; refine JL_extract (v := .int .i64 (lo27 : Nat)) rfl rfl ?_; refine JL_extract (v := .int .i64 (hi27 : Nat)) rfl rfl ?_; refine JL_a ?_; refine JL_a ?_; refine JL_du 95 [box _ _ [_, _, _]] [_, _, _, _, _] ?_; refine JC_seq ?_; refine JC_sr ?_; refine JL_m ?_; refine JL_m ?_; refine JL_sub_to rfl rfl (IntWalk.i64_in _ (by omega)) ?_; refine JL_add_to rfl rfl (IntWalk.i64_in _ (by omega)) ?_; refine JL_m ?_; refine JL_neq rfl rfl ?_; refine JL_split (fun h35 => ?_) (fun h35 => ?_)
  ·refine JL_dv 95 ?_; refine JC_true rfl ?_; refine JC_sr ?_; refine JL_a ?_; refine JL_dv 95 ?_; refine JC_ret ?_; refine JE_then_ret ?_; refine JE_ret (vs := [_]) [] Tryz.results55 ⟨rfl, rfl⟩ ?_ ?_
   · exact ⟨false, rfl, rfl, fun e => absurd e (by decide), fun h => absurd h (hw.bad hk0 hr27 (by omega))⟩
   · exact all_nil
  ·refine JL_dv 95 ?_; refine JC_false rfl ?_; refine JC_skip ?_; refine JE_then ?_; refine JC_sr ?_; refine JL_a ?_; refine JL_a ?_; refine JL_dv 95 ?_; refine JC_seq ?_; refine JC_sr ?_; refine JL_a ?_; refine JL_dv 95 ?_; refine JC_block ?_; refine JC_loopS ((Nat) × (Bool) × (Bool)) (fun (i, u1, d1) => i ≤ t.kids.length ∧ (∀ j, j < i → Fits p (er (t.kids.getD j default))) ∧ (u1 = true ↔ upI p t.kids i) ∧ (d1 = true ↔ dnI p t.kids i)) (fun (i, u1, d1) => t.kids.length - i) (fun u (i, u1, d1) => (rn 4 (some (u 4) :: rn 4 (some (.bool u1) :: some (.bool d1) :: some (.int .i64 (i : Nat)) :: sc u 12 4 (rn 20 (sc u 36 50 [])))))) (fun (i, u1, d1) => []) (fun (i, u1, d1) => []) (0, true, true) (by kernel_rfl) ?_ (by kernel_rfl) ?_ ?_
   · exact ⟨Nat.zero_le _, fun j hj => absurd hj (Nat.not_lt_zero _), ⟨fun _ j hj => by omega, fun _ => rfl⟩, ⟨fun _ j hj => by omega, fun _ => rfl⟩⟩
   · exact subset_nil
   intro u i hC; obtain ⟨i, u1, d1⟩ := i; obtain ⟨hi, hk, hu, hd⟩ := hC; refine JC_nm 95 [box _ _ [_, _, _]] [_, _, _, _, _] ?_; refine JC_seq ?_; refine JC_sr ?_; refine JL_m ?_; refine JL_fieldAddr fo66_2 rfl ?_; refine JL_load 0 ty64 rfl rfl rfl ?_; refine JL_len sl64 rfl ?_; refine JL_lss rfl rfl ?_; refine JL_split (fun h40 => ?_) (fun h40 => ?_)
   ·refine JL_dv 95 ?_; refine JC_true rfl ?_; refine JC_skip ?_; refine JE_then ?_; refine JC_seq ?_; refine JC_block ?_; refine JC_seq ?_; refine JC_sr ?_; refine JL_fieldAddr fo66_2 rfl ?_; refine JL_load 0 ty64 rfl rfl rfl ?_; refine JL_m ?_; refine JL_indexAddr i sl64 rfl rfl rfl (by omega) (by first | exact Reads.view am) (by rw [ncL_len]; omega) ?_; refine JL_loadEA (vs := [_, _, _]) ty66 (Nat.zero_lt_succ _) rfl (by first | exact Reads.view am) (ncL_getA (by omega)) ?_; refine JL_m ?_; refine JL_callF' (Asks.cons (holds_of_mem am) (Asks.cons (holds_of_mem am) Asks.nil)) (conN1 (IH (t.kids.getD i default) (at_mem (l := t.kids) (i := i) (by omega))) (at_mem (l := t.kids) (i := i) (by omega))) rfl ca55 ⟨rfl, rfl, rfl⟩ ?_; rintro _ _ ⟨b49, rfl, rfl, hb49⟩; refine JL_splitV (fun h49 => ?_) (fun h49 => ?_)
    ·refine JL_not rfl ?_; rw [Bool.not_true]; refine JL_du 95 [box _ _ [_, _, _]] [_, _, _, _, _] ?_; refine JC_false rfl ?_; refine JC_skip ?_; refine JE_then ?_; refine JC_sr ?_; refine JL_m ?_; refine JL_gtr rfl rfl ?_; refine JL_split (fun h52 => ?_) (fun h52 => ?_)
     ·refine JL_dv 95 ?_; refine JC_true rfl ?_; refine JC_sr ?_; refine JL_fieldAddr fo66_2 rfl ?_; refine JL_load 0 ty64 rfl rfl rfl ?_; refine JL_m ?_; refine JL_sub_to rfl rfl (IntWalk.i64_in _ (by omega)) ?_; refine JL_indexAddr (i - 1) sl64 rfl rfl (by omega) (by omega) (by first | exact Reads.view am) (by rw [ncL_len]; omega) ?_; refine JL_loadEA (vs := [_, _, _]) ty66 (Nat.zero_lt_succ _) rfl (by first | exact Reads.view am) (ncL_getA (by omega)) ?_; refine JL_m ?_; refine JL_callF' (Asks.cons (holds_of_mem am) (Asks.cons (holds_of_mem am) Asks.nil)) (conN1 (rreach_con hp (t.kids.getD (i - 1) default) (hw.kid (at_mem (l := t.kids) (i := i - 1) (by omega)))) (at_mem (l := t.kids) (i := i - 1) (by omega))) rfl ca93 ⟨rfl, rfl, rfl⟩ ?_; rintro _ _ ⟨lo61, hi61, rfl, rfl, hr61⟩; refine JL_m ?_; refine JL_extract (v := .int .i64 (lo61 : Nat)) rfl rfl ?_; refine JL_extract (v := .int .i64 (hi61 : Nat)) rfl rfl ?_; refine JL_a ?_; refine JL_a ?_; refine JL_du 95 [box _ _ [_, _, _]] [_, _, _, _, _] ?_; refine JC_sr ?_; refine JL_fieldAddr fo66_2 rfl ?_; refine JL_load 0 ty64 rfl rfl rfl ?_
      refine JL_m ?_; refine JL_indexAddr i sl64 rfl rfl rfl (by omega) (by first | exact Reads.view am) (by rw [ncL_len]; omega) ?_; refine JL_loadEA (vs := [_, _, _]) ty66 (Nat.zero_lt_succ _) rfl (by first | exact Reads.view am) (ncL_getA (by omega)) ?_; refine JL_m ?_; refine JL_callF' (Asks.cons (holds_of_mem am) (Asks.cons (holds_of_mem am) Asks.nil)) (conN1 (rreach_con hp (t.kids.getD i default) (hw.kid (at_mem (l := t.kids) (i := i) (by omega)))) (at_mem (l := t.kids) (i := i) (by omega))) rfl ca93 ⟨rfl, rfl, rfl⟩ ?_; rintro _ _ ⟨lo71, hi71, rfl, rfl, hr71⟩; refine JL_m ?_; refine JL_extract (v := .int .i64 (lo71 : Nat)) rfl rfl ?_; refine JL_extract (v := .int .i64 (hi71 : Nat)) rfl rfl ?_; refine JL_a ?_; refine JL_a ?_; refine JL_du 95 [box _ _ [_, _, _]] [_, _, _, _, _] ?_; refine JC_seq ?_
      rcases u1 with _ | _
      ·refine JC_region ?_; refine JL_m ?_; refine JL_m ?_; refine JL_gn ?_; refine JL_gn ?_; refine JL_gn ?_; refine JL_pick_f rfl rfl ?_; refine JL_a ?_; refine JL_dv 95 ?_
       rcases d1 with _ | _
       ·refine JC_region ?_; refine JL_m ?_; refine JL_m ?_; refine JL_gn ?_; refine JL_gn ?_; refine JL_gn ?_; refine JL_pick_f rfl rfl ?_; refine JL_a ?_; refine JL_nv 95 ?_; refine JE_block_normal ?_; refine JE_then ?_; refine JC_region ?_; refine JL_m ?_; refine JL_add_to rfl rfl (IntWalk.i64_in _ (by omega)) ?_; refine JL_a ?_; refine JL_nv 95 ?_; refine JE_nextS (i + 1, false, false) (by kernel_rfl) ?_ ?_ (by kernel_rfl) ?_
        · exact ⟨by omega, fits_step2 hk (hb49.1 h49), up_no hu, dn_no hd⟩
        · first | omega | (dsimp only; omega)
        · exact subset_app subset_nil ss0
       ·refine JC_region ?_; refine JL_m ?_; refine JL_m ?_; refine JL_gy ?_; refine JL_m ?_; refine JL_gy ?_; refine JL_m ?_; refine JL_gy ?_; refine JL_gtr rfl rfl ?_; refine JL_pick_t rfl rfl ?_; refine JL_a ?_; refine JL_nv 95 ?_; refine JE_block_normal ?_; refine JE_then ?_; refine JC_region ?_; refine JL_m ?_; refine JL_add_to rfl rfl (IntWalk.i64_in _ (by omega)) ?_; refine JL_a ?_; refine JL_nv 95 ?_; refine JE_nextS (i + 1, false, decide (((hi61 : Nat) : Int) > ((lo71 : Nat) : Int))) (by kernel_rfl) ?_ ?_ (by kernel_rfl) ?_
        · exact ⟨by omega, fits_step2 hk (hb49.1 h49), up_no hu, dn_yes hd (by omega) (by rw [← dn_bef hw.nd (hk _ (by omega)) (hb49.1 h49) (hw.apart (by omega) (by omega)) hr61 hr71]; omega)⟩
        · first | omega | (dsimp only; omega)
        · exact subset_app subset_nil ss0
      ·refine JC_region ?_; refine JL_m ?_; refine JL_m ?_; refine JL_gy ?_; refine JL_m ?_; refine JL_gy ?_; refine JL_m ?_; refine JL_gy ?_; refine JL_lss rfl rfl ?_; refine JL_pick_t rfl rfl ?_; refine JL_a ?_; refine JL_dv 95 ?_
       rcases d1 with _ | _
       ·refine JC_region ?_; refine JL_m ?_; refine JL_m ?_; refine JL_gn ?_; refine JL_gn ?_; refine JL_gn ?_; refine JL_pick_f rfl rfl ?_; refine JL_a ?_; refine JL_nv 95 ?_; refine JE_block_normal ?_; refine JE_then ?_; refine JC_region ?_; refine JL_m ?_; refine JL_add_to rfl rfl (IntWalk.i64_in _ (by omega)) ?_; refine JL_a ?_; refine JL_nv 95 ?_; refine JE_nextS (i + 1, decide (((hi61 : Nat) : Int) < ((lo71 : Nat) : Int)), false) (by kernel_rfl) ?_ ?_ (by kernel_rfl) ?_
        · exact ⟨by omega, fits_step2 hk (hb49.1 h49), up_yes hu (by omega) (by rw [← hr61.bef hr71]; omega), dn_no hd⟩
        · first | omega | (dsimp only; omega)
        · exact subset_app subset_nil ss0
       ·refine JC_region ?_; refine JL_m ?_; refine JL_m ?_; refine JL_gy ?_; refine JL_m ?_; refine JL_gy ?_; refine JL_m ?_; refine JL_gy ?_; refine JL_gtr rfl rfl ?_; refine JL_pick_t rfl rfl ?_; refine JL_a ?_; refine JL_nv 95 ?_; refine JE_block_normal ?_; refine JE_then ?_; refine JC_region ?_; refine JL_m ?_; refine JL_add_to rfl rfl (IntWalk.i64_in _ (by omega)) ?_; refine JL_a ?_; refine JL_nv 95 ?_; refine JE_nextS (i + 1, decide (((hi61 : Nat) : Int) < ((lo71 : Nat) : Int)), decide (((hi61 : Nat) : Int) > ((lo71 : Nat) : Int))) (by kernel_rfl) ?_ ?_ (by kernel_rfl) ?_
        · exact ⟨by omega, fits_step2 hk (hb49.1 h49), up_yes hu (by omega) (by rw [← hr61.bef hr71]; omega), dn_yes hd (by omega) (by rw [← dn_bef hw.nd (hk _ (by omega)) (hb49.1 h49) (hw.apart (by omega) (by omega)) hr61 hr71]; omega)⟩
        · first | omega | (dsimp only; omega)
        · exact subset_app subset_nil ss0
     ·refine JL_dv 95 ?_; refine JC_false rfl ?_; refine JC_skip ?_; refine JE_block_normal ?_; refine JE_then ?_; refine JC_region ?_; refine JL_m ?_; refine JL_add_to rfl rfl (IntWalk.i64_in _ (by omega)) ?_; refine JL_a ?_; refine JL_nv 95 ?_; refine JE_nextS (i + 1, u1, d1) (by kernel_rfl) ?_ ?_ (by kernel_rfl) ?_
      · exact ⟨by omega, fits_step2 hk (hb49.1 h49), up_one hu (by omega), dn_one hd (by omega)⟩
      · first | omega | (dsimp only; omega)
      · exact subset_app subset_nil ss0
    ·refine JL_not rfl ?_; rw [Bool.not_false]; refine JL_du 95 [box _ _ [_, _, _]] [_, _, _, _, _] ?_; refine JC_true rfl ?_; refine JC_sr ?_; refine JL_a ?_; refine JL_dv 95 ?_; refine JC_ret ?_; refine JE_then_ret ?_; refine JE_block_ret ?_; refine JE_then_ret ?_; refine JE_nextS_ret ?_; refine JE_block_ret ?_; refine JE_then_ret ?_; refine JE_ret (vs := [_]) [] Tryz.results55 ⟨rfl, rfl⟩ ?_ ?_
     · exact ⟨false, rfl, rfl, fun e => absurd e (by decide), fun h => absurd h (hw.no (i := i) hr27 (by omega) (fun hF => by rw [hb49.2 hF] at h49; cases h49))⟩
     · exact all_nil
   ·refine JL_dv 95 ?_; refine JC_false rfl ?_; refine JC_exit ?_; refine JE_then_exit ?_; refine JE_nextS_exit ?_; refine JE_block_exit ?_; refine JE_then ?_; refine JC_seq ?_; obtain rfl : i = t.kids.length := by omega
    rcases (by by_cases c : t.kind = 1 <;> cases u1 <;> cases d1 <;> simp [c] : t.kind = 1 ∨ (¬ t.kind = 1 ∧ u1 = true) ∨ (¬ t.kind = 1 ∧ u1 = false ∧ d1 = true) ∨ (¬ t.kind = 1 ∧ u1 = false ∧ d1 = false)) with hA | ⟨hA, rfl⟩ | ⟨hA, rfl, rfl⟩ | ⟨hA, rfl, rfl⟩
    ·refine JC_region ?_; refine JL_fieldAddr fo66_0 rfl ?_; refine JL_load 0 ty3 rfl rfl rfl ?_; refine JL_eql rfl rfl ?_; rw [decide_eq_true (p := t.kind = 1) (by omega)]; refine JL_m ?_; refine JL_gn ?_; refine JL_pick_t rfl rfl ?_; refine JL_m ?_; refine JL_gn ?_; refine JL_pick_t rfl rfl ?_; refine JL_a ?_; refine JL_dv 95 ?_; refine JC_ret ?_; refine JE_ret (vs := [_]) [] Tryz.results55 ⟨rfl, rfl⟩ ?_ ?_
     · exact ⟨true, rfl, rfl, hw.done hk0 hr27 (by omega) rfl hk hu hd ⟨fun _ => .inl (kd_one.1 hA).2, fun _ => rfl⟩⟩
     · exact all_nil
    ·refine JC_region ?_; refine JL_fieldAddr fo66_0 rfl ?_; refine JL_load 0 ty3 rfl rfl rfl ?_; refine JL_eql rfl rfl ?_; rw [decide_eq_false (p := t.kind = 1) (by omega)]; refine JL_m ?_; refine JL_gy ?_; refine JL_m ?_; refine JL_pick_f rfl rfl ?_; refine JL_m ?_; refine JL_gn ?_; refine JL_pick_t rfl rfl ?_; refine JL_a ?_; refine JL_dv 95 ?_; refine JC_ret ?_; refine JE_ret (vs := [_]) [] Tryz.results55 ⟨rfl, rfl⟩ ?_ ?_
     · exact ⟨true, rfl, rfl, hw.done hk0 hr27 (by omega) rfl hk hu hd ⟨fun _ => .inr (.inl rfl), fun _ => rfl⟩⟩
     · exact all_nil
    ·refine JC_region ?_; refine JL_fieldAddr fo66_0 rfl ?_; refine JL_load 0 ty3 rfl rfl rfl ?_; refine JL_eql rfl rfl ?_; rw [decide_eq_false (p := t.kind = 1) (by omega)]; refine JL_m ?_; refine JL_gy ?_; refine JL_m ?_; refine JL_pick_f rfl rfl ?_; refine JL_m ?_; refine JL_gy ?_; refine JL_m ?_; refine JL_pick_f rfl rfl ?_; refine JL_a ?_; refine JL_dv 95 ?_; refine JC_ret ?_; refine JE_ret (vs := [_]) [] Tryz.results55 ⟨rfl, rfl⟩ ?_ ?_
     · exact ⟨true, rfl, rfl, hw.done hk0 hr27 (by omega) rfl hk hu hd ⟨fun _ => .inr (.inr rfl), fun _ => rfl⟩⟩
     · exact all_nil
    ·refine JC_region ?_; refine JL_fieldAddr fo66_0 rfl ?_; refine JL_load 0 ty3 rfl rfl rfl ?_; refine JL_eql rfl rfl ?_; rw [decide_eq_false (p := t.kind = 1) (by omega)]; refine JL_m ?_; refine JL_gy ?_; refine JL_m ?_; refine JL_pick_f rfl rfl ?_; refine JL_m ?_; refine JL_gy ?_; refine JL_m ?_; refine JL_pick_f rfl rfl ?_; refine JL_a ?_; refine JL_dv 95 ?_; refine JC_ret ?_; refine JE_ret (vs := [_]) [] Tryz.results55 ⟨rfl, rfl⟩ ?_ ?_
     · exact ⟨false, rfl, rfl, hw.done hk0 hr27 (by omega) rfl hk hu hd ⟨fun e => absurd e (by decide), fun h => by
         rcases h with h | h | h
         · exact absurd (kd_one.2 ⟨hk0, h⟩) hA
         · cases h
         · cases h⟩⟩
     · exact all_nil

theorem rallow_con {adr : Option Addr} {cr : Nat} {p : List Nat} (hp : p.length ≤ 1000) (t : AT) : AlwH p t → (lvs (er t)).length ≤ 1000 → ConF Tryz.prog 55 [nval t, .slice adr (zs p).length cr] [vCells adr (i64s (zs p)), vN t] (fun v φo => ∃ b : Bool, v = .bool b ∧ φo = [] ∧ (b = true ↔ Fits p (er (t)))) := by
  induction t using AT.indP with
  | h t ih => exact fun hw hL => rallow_con0 hp hw hL fun k hk => ih k hk (hw.kid hk) (by
      have h1 : t.kids.length ≠ 0 := fun e => by rw [List.length_eq_zero_iff.1 e] at hk; cases hk
      rw [nA_kn h1] at hL
      have := nA_mem hk
      omega)

set_option maxHeartbeats 1000000 in
theorem rhas2_con {b n : Nat} {t : AT} (hf : Fit t) (ht : Tn n (er t)) (hn : n ≤ 16) {ad : Option Addr} {c : Nat} {L : List Int} (hL : L.length ≤ 1000) :
    ConF Tryz.prog 29 [nptr b, .slice ad L.length c] [vCells (some ⟨b, 0, none⟩) [.int .i64 (n : Nat), .int .i64 (t).kind, .int .i64 ((t).col : Nat), .slice (t).kad (t).kids.length (t).kcap], vN t, vCells ad (i64s L)]
      (fun v φo => ∃ b : Bool, v = .bool b ∧ φo = [] ∧ (b = true ↔ refH n (er t) L)) := by
 have hlv := ht.lvs_len
 refine ConF_of Tryz.func29 rfl 23 (_ :: _ :: rp 21) rfl rfl ?_; intro w0; refine JC_st [] [_, _, _] ?_; refine JC_sr ?_; refine JL_a ?_; refine JL_dv 23 ?_; refine JC_sr ?_; refine JL_m ?_; refine JL_neqPtr pt29 rfl rfl ?_; refine JL_splitV (fun h6 => ?_) (fun h6 => ?_)
 ·refine JL_m ?_; refine JL_gy ?_; refine JL_m ?_; refine JL_gy ?_; refine JL_m ?_; refine JL_gy ?_; refine JL_nilCheckE rfl ?_; refine JL_gy ?_; refine JL_fieldAddrE fo69_0 rfl (by first | exact Reads.view am) (show 0 < ([.int .i64 (n : Nat), .int .i64 (t).kind, .int .i64 ((t).col : Nat), .slice (t).kad (t).kids.length (t).kcap] : List Value).length from Nat.zero_lt_succ _) ?_; refine JL_gy ?_; refine JL_loadE ty3 rfl (by first | exact Reads.view am) rfl ?_; refine JL_gy ?_; refine JL_callF' (Asks.cons (holds_of_mem am) Asks.nil) (rorder_con hL) rfl ca54 ⟨rfl, rfl, rfl⟩ ?_; rintro _ _ ⟨b13, rfl, rfl, hb13⟩; refine JL_splitV (fun h13 => ?_) (fun h13 => ?_)
  ·obtain ⟨p, rfl, hp⟩ := hb13.1 h13; rw [zs_length] at hL; refine JL_pick_t rfl rfl ?_; refine JL_m ?_; refine JL_gy ?_; refine JL_m ?_; refine JL_gy ?_; refine JL_nilCheckE rfl ?_; refine JL_gy ?_; refine JL_fieldAddrE fo69_1 rfl (by first | exact Reads.view am) (show 0 < ([.int .i64 (n : Nat), .int .i64 (t).kind, .int .i64 ((t).col : Nat), .slice (t).kad (t).kids.length (t).kcap] : List Value).length from Nat.zero_lt_succ _) ?_; refine JL_gy ?_; refine JL_loadEA (vs := [_, _, _]) ty66 (Nat.zero_lt_succ _) rfl (by first | exact Reads.view am) load3 ?_; refine JL_gy ?_; refine JL_m ?_; refine JL_gy ?_; refine JL_callF' (Asks.cons (holds_of_mem am) (Asks.cons (holds_of_mem am) Asks.nil)) (rallow_con hL t (ht.alw hf hp) (by omega)) rfl ca55 ⟨rfl, rfl, rfl⟩ ?_; rintro _ _ ⟨b21, rfl, rfl, hb21⟩; refine JL_pick_t rfl rfl ?_; refine JL_a ?_; refine JL_du 23 [] [_, _, _] ?_; refine JC_ret ?_; refine JE_ret (vs := [_]) [] Tryz.results29 ⟨rfl, rfl⟩ ?_ ?_
   · exact ⟨b21, rfl, rfl, ref_fin ht hp hb21⟩
   · exact all_nil
  ·refine JL_pick_t rfl rfl ?_; refine JL_m ?_; refine JL_gn ?_; refine JL_gn ?_; refine JL_gn ?_; refine JL_gn ?_; refine JL_gn ?_; refine JL_gn ?_; refine JL_pick_f rfl rfl ?_; refine JL_a ?_; refine JL_du 23 [] [_, _, _] ?_; refine JC_ret ?_; refine JE_ret (vs := [_]) [] Tryz.results29 ⟨rfl, rfl⟩ ?_ ?_
   · exact ⟨false, rfl, rfl, fun e => absurd e (by decide), fun ⟨p, e, hp, _⟩ => by rw [hb13.2 ⟨p, e, hp⟩] at h13; cases h13⟩
   · exact all_nil
 · exact absurd h6.symm Bool.false_ne_true

theorem tfront_con {b n rl cr : Nat} {ar : Option Addr} {a : AT} (hf : Fit a) (ht : Tn n (er a)) (hn : n ≤ 16) :
    ConF Tryz.prog 25 [nptr b] [vCells (some ⟨b, 0, none⟩) [.int .i64 (n : Nat), ptr a, .slice ar rl cr], vA a]
      (fun v φo => ∃ (ad3 : Option Addr) (c3 : Nat), v = .slice ad3 (zs (fstT (er a))).length c3 ∧ ((zs (fstT (er a))).length ≤ c3 ∧ c3 ≤ 9223372036854775807) ∧ φo = [vCells ad3 (i64s (zs (fstT (er a))))]) := by
 refine ConF_of Tryz.func25 rfl 5 (_ :: rp 4) rfl rfl ?_; intro w0; refine JC_st [] [_, _] ?_; refine JC_sr ?_; refine JL_a ?_; refine JL_dv 5 ?_; refine JC_sr ?_; refine JL_m ?_; refine JL_callF' (Asks.cons (holds_of_mem am) (Asks.cons (holds_of_mem am) Asks.nil)) (tfirst_con hf ht hn) rfl ca20 ⟨rfl, rfl⟩ ?_; rintro _ _ ⟨ad4, c4, rfl, hc4, rfl⟩; refine JL_a ?_; refine JL_du 5 [] [_, _, _] ?_; refine JC_ret ?_; refine JE_ret (vs := [_]) [vCells ad4 (i64s (zs (fstT (er a))))] Tryz.results25 ⟨rfl, rfl⟩ ?_ ?_
 · exact ⟨ad4, c4, rfl, hc4, rfl⟩
 · exact (all_cons am all_nil)

theorem hasN_con {x : Value} :
    ConF Tryz.prog 23 [.pointer none, x] []
      (fun v φo => v = .bool false ∧ φo = []) := by
 refine ConF_of Tryz.func23 rfl 69 (_ :: _ :: rp 67) rfl rfl ?_; intro w0; refine JC_st [] [] ?_; refine JC_sr ?_; refine JL_a ?_; refine JL_dv 69 ?_; refine JC_seq ?_; refine JC_seq ?_; refine JC_drawT mixed 19 [spV 11 [] _, spV 12 [0] _, spV 13 [1] _, spV 14 [2] _, spV 15 [2, 3] _, spV 16 [2] _, spV 17 [2, 5] _, spV 18 [2, 6] _, spV 19 [2, 7] _, spV 20 [2, 4, 8] _, spV 21 [2, 9] _, spV 22 [10] _, spV 23 [11] _, spV 24 [11, 12] _, spV 25 [11, 13] _, spV 26 [11] _, spV 27 [11, 15] _, spV 28 [11, 16] _, spV 29 [11, 17] _] ⟨oM, OblS_V (fun vals ex ψ => (by refine JL_eqlPtr pt25 rfl rfl ?_; exact vz rfl)), oM, oN, oN, oN, oN, oN, oN, oN, OblS_V (fun vals ex ψ => (by refine JL_pick_t rfl rfl ?_; exact vz rfl)), oM, oN, oN, oN, oN, oN, oN, oN, trivial⟩ (by kernel_rfl) (fun vals bs => ?_)
 refine JL_normL [_, _, _] ⟨69, [(11, _), (12, _), (13, _), (14, _), (15, _), (16, _), (17, _), (18, _), (19, _), (20, _), (21, _), (22, _), (23, _), (24, _), (25, _), (26, _), (27, _), (28, _), (29, _)], _⟩ [] [] rfl rfl rfl rfl ?_; refine JL_gn ?_; refine JL_gn ?_; refine JL_pick_t rfl rfl ?_; refine JL_du 69 [] [] ?_; refine JC_true rfl ?_; refine JC_sr ?_; refine JL_a ?_; refine JL_dv 69 ?_; refine JC_ret ?_; refine JE_then_ret ?_; refine JE_ret (vs := [_]) [] Tryz.results23 ⟨rfl, rfl⟩ ?_ ?_
 · exact ⟨rfl, rfl⟩
 · exact all_nil

theorem tfirstN_con  :
    ConF Tryz.prog 20 [.pointer none] []
      (fun v φo => v = .slice none 0 0 ∧ φo = []) := by
 refine ConF_of Tryz.func20 rfl 10 (_ :: rp 9) rfl rfl ?_; intro w0; refine JC_st [] [] ?_; refine JC_sr ?_; refine JL_a ?_; refine JL_dv 10 ?_; refine JC_seq ?_; refine JC_sr ?_; refine JL_m ?_; refine JL_eqlPtr pt25 rfl rfl ?_; refine JL_splitV (fun h4 => ?_) (fun h4 => ?_)
 ·refine JL_dv 10 ?_; refine JC_true rfl ?_; refine JC_sr ?_; refine JL_a ?_; refine JL_dv 10 ?_; refine JC_ret ?_; refine JE_then_ret ?_; refine JE_ret (vs := [_]) [] Tryz.results20 ⟨rfl, rfl⟩ ?_ ?_
  · exact ⟨rfl, rfl⟩
  · exact all_nil
 · exact absurd h4 (by decide)

theorem tfrontN_con  :
    ConF Tryz.prog 25 [.pointer none] []
      (fun v φo => v = .slice none 0 0 ∧ φo = []) := by
 refine ConF_of Tryz.func25 rfl 5 (_ :: rp 4) rfl rfl ?_; intro w0; refine JC_st [] [] ?_; refine JC_sr ?_; refine JL_a ?_; refine JL_dv 5 ?_; refine JC_sr ?_; refine JL_m ?_; refine JL_callF' Asks.nil (tfirstN_con) rfl ca20 ⟨rfl, rfl⟩ ?_; rintro _ _ ⟨rfl, rfl⟩; refine JL_a ?_; refine JL_du 5 [] [] ?_; refine JC_ret ?_; refine JE_ret (vs := [_]) [] Tryz.results25 ⟨rfl, rfl⟩ ?_ ?_
 · exact ⟨rfl, rfl⟩
 · exact all_nil

theorem tcountN_con  :
    ConF Tryz.prog 18 [.pointer none] []
      (fun v φo => v = .agg #[.slice none 0 0] ∧ φo = []) := by
 refine ConF_of Tryz.func18 rfl 11 (_ :: rp 10) rfl rfl ?_; intro w0; refine JC_st [] [] ?_; refine JC_sr ?_; refine JL_alloc z39 (fun b2 => ?_); refine JL_du 11 [box _ _ [_]] [] ?_; refine JC_seq ?_; refine JC_sr ?_; refine JL_m ?_; refine JL_eqlPtr pt25 rfl rfl ?_; refine JL_splitV (fun h4 => ?_) (fun h4 => ?_)
 ·refine JL_dv 11 ?_; refine JC_true rfl ?_; refine JC_sr ?_; refine JL_build (cs := [_]) [] st39 rfl rfl ?_; refine JL_store (vs := [_]) 0 ty39 rfl rfl rfl (AllOne.cons rfl AllOne.nil) rfl (Nat.le_of_ble_eq_true rfl) ?_; refine JL_du 11 [box _ _ [_]] [] ?_; refine JC_ret ?_; refine JE_then_ret ?_; refine JE_ret (vs := [_]) [] Tryz.results18 ⟨RV.cell (vs := [_]) 0 ty39 rfl rfl ⟨rfl, trivial⟩, rfl⟩ ?_ ?_
  · exact ⟨rfl, rfl⟩
  · exact all_nil
 · exact absurd h4 (by decide)

end Go.Fw.K
