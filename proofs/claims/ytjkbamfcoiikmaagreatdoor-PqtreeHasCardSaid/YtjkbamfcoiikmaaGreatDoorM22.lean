/- Walks through functions of the given program: each meets its contract. (Printed by a program of this repo.) -/
import Derived.Test.YtjkbamfcoiikmaaGreatDoorME
import Derived.Test.YtjkbamfcoiikmaaGreatDoorPqY
import Derived.Test.YtjkbamfcoiikmaaGreatDoorProg
namespace Go.Fw.M22
open Go Go.RowKit Go.Proofs Go.Nat9 Go.Fw
attribute [local irreducible] JC JL JE
theorem ca37 : callable Tryz.prog 37 = true := by kernel_rfl
theorem ca49 : callable Tryz.prog 49 = true := by kernel_rfl
theorem ca50 : callable Tryz.prog 50 = true := by kernel_rfl
theorem ca51 : callable Tryz.prog 51 = true := by kernel_rfl
theorem ca92 : callable Tryz.prog 92 = true := by kernel_rfl
theorem fo63_0 : fOf Tryz.prog 63 0 = some 0 := by kernel_rfl
theorem fo63_2 : fOf Tryz.prog 63 2 = some 2 := by kernel_rfl
theorem mixed : Tryz.prog.follows .mixedOrders = true := by kernel_rfl
theorem pt25 : Tryz.prog.underlying 25 = some (.pointer (Tryz.prog.pointee 25)) := by kernel_rfl
theorem sl22 : slOf Tryz.prog 22 = some (32, 1, 24, [.slice none 0 0]) := by kernel_rfl
theorem sl32 : slOf Tryz.prog 32 = some (3, 1, 8, [.int .i64 0]) := by kernel_rfl
theorem ty22 : tyOf Tryz.prog 22 = some (false, 1) := by kernel_rfl
theorem ty3 : tyOf Tryz.prog 3 = some (false, 1) := by kernel_rfl
theorem ty32 : tyOf Tryz.prog 32 = some (false, 1) := by kernel_rfl
end Go.Fw.M22
namespace Go.Fw.K
open Go Go.RowKit Go.Proofs Go.Nat9 Go.Fw Go.Fw.M22
attribute [local irreducible] JC JL JE

open Go.Fw.Pq
theorem idxV_con {ad : Option Addr} {c : Nat} {L : List Int} {x : Int} (hln : L.length ≤ 1000000) :
    ConF Tryz.prog 92 [.slice ad L.length c, .int .i64 x] [vCells ad (i64s L)]
      (fun v φo => ∃ r, v = .int .i64 r ∧ φo = [] ∧ firstI (fun k => decide (x = L.getD k 0)) L.length r) := by
 refine ConF_of Tryz.func92 rfl 19 (_ :: _ :: rp 17) rfl rfl ?_; intro w0; refine JC_st [] [_] ?_; refine JC_sr ?_; refine JL_a ?_; refine JL_dv 19 ?_; refine JC_seq ?_; refine JC_sr ?_; refine JL_m ?_; refine JL_len sl32 rfl ?_; refine JL_m ?_; refine JL_dv 19 ?_; refine JC_block ?_; refine JC_loopS ((Nat)) (fun (k : Nat) => k ≤ L.length ∧ ∀ j, j < k → decide (x = L.getD j 0) = false) (fun (k : Nat) => L.length - k) (fun u (k : Nat) => (rn 4 (sc u 4 2 (rn 2 (some (.int .i64 (k : Nat)) :: sc u 9 10 []))))) (fun (k : Nat) => []) (fun (k : Nat) => []) (0) (by kernel_rfl) ?_ (by kernel_rfl) ?_ ?_
 · exact ⟨Nat.zero_le _, fun j hj => absurd hj (Nat.not_lt_zero j)⟩
 · exact subset_nil
 intro u k hC; obtain ⟨hk, hpf⟩ := hC; refine JC_nm 19 [] [_] ?_; refine JC_sr ?_; refine JL_lss rfl rfl ?_; refine JL_split (fun h9 => ?_) (fun h9 => ?_)
 ·refine JL_dv 19 ?_; refine JC_seq ?_; refine JC_true rfl ?_; refine JC_skip ?_; refine JE_then ?_; refine JC_seq ?_; refine JC_block ?_; refine JC_sr ?_; refine JL_m ?_; refine JL_a ?_; refine JL_dv 19 ?_; refine JC_sr ?_; refine JL_m ?_; refine JL_m ?_; refine JL_m ?_; refine JL_idx k sl32 rfl rfl rfl (by omega) (by first | exact Reads.view am) (by first | (rw [u32s_length]; omega) | (rw [i64s_length]; omega)) ?_; refine JL_loadE ty3 rfl (by first | exact Reads.view am) (i64s_get (by omega)) ?_; refine JL_eql rfl rfl ?_; refine JL_split (fun h16 => ?_) (fun h16 => ?_)
  ·refine JL_dv 19 ?_; refine JC_true rfl ?_; refine JC_sr ?_; refine JL_m ?_; refine JL_a ?_; refine JL_dv 19 ?_; refine JC_ret ?_; refine JE_block_ret ?_; refine JE_then_ret ?_; refine JE_nextS_ret ?_; refine JE_block_ret ?_; refine JE_then_ret ?_; refine JE_ret (vs := [_]) [] Tryz.results92 ⟨rfl, rfl⟩ ?_ ?_
   · exact ⟨_, rfl, rfl, .inr ⟨k, by omega, rfl, decide_eq_true h16, hpf⟩⟩
   · exact all_nil
  ·refine JL_dv 19 ?_; refine JC_false rfl ?_; refine JC_skip ?_; refine JE_block_normal ?_; refine JE_then ?_; refine JC_region ?_; refine JL_add_to rfl rfl (IntWalk.i64_in _ (by omega)) ?_; refine JL_m ?_; refine JL_nv 19 ?_; refine JE_nextS (k + 1) (by kernel_rfl) ?_ ?_ (by kernel_rfl) ?_
   · exact ⟨by omega, fun j hj => by
     by_cases h : j = k
     · subst h; exact decide_eq_false h16
     · exact hpf j (by omega)⟩
   · first | omega | (dsimp only; omega)
   · exact subset_app subset_nil ss0
 ·refine JL_dv 19 ?_; refine JC_seq ?_; refine JC_false rfl ?_; refine JC_exit ?_; refine JE_then_exit ?_; refine JE_nextS_exit ?_; refine JE_block_exit ?_; refine JE_then ?_; refine JC_sr ?_; refine JL_a ?_; refine JL_dv 19 ?_; refine JC_ret ?_; refine JE_ret (vs := [_]) [] Tryz.results92 ⟨rfl, rfl⟩ ?_ ?_
  · exact ⟨_, rfl, rfl, .inl ⟨rfl, fun j hj => hpf j (by omega)⟩⟩
  · exact all_nil

theorem contV_con {ad : Option Addr} {c : Nat} {L : List Int} {x : Int} (hln : L.length ≤ 1000000) :
    ConF Tryz.prog 51 [.slice ad L.length c, .int .i64 x] [vCells ad (i64s L)]
      (fun v φo => v = .bool (decide (x ∈ L)) ∧ φo = []) := by
 refine ConF_of Tryz.func51 rfl 9 (_ :: _ :: rp 7) rfl rfl ?_; intro w0; refine JC_st [] [_] ?_; refine JC_sr ?_; refine JL_a ?_; refine JL_dv 9 ?_; refine JC_sr ?_; refine JL_m ?_; refine JL_m ?_; refine JL_callF' (Asks.cons (holds_of_mem am) Asks.nil) (idxV_con hln) rfl ca92 ⟨rfl, rfl, rfl⟩ ?_; rintro _ _ ⟨r7, rfl, rfl, hr7⟩; refine JL_geq rfl rfl ?_; rw [memI_first hr7]; refine JL_a ?_; refine JL_du 9 [] [_] ?_; refine JC_ret ?_; refine JE_ret (vs := [_]) [] Tryz.results51 ⟨rfl, rfl⟩ ?_ ?_
 · exact ⟨rfl, rfl⟩
 · exact all_nil

set_option maxHeartbeats 4000000 in
theorem has_con {b n cr : Nat} {a : AT} {ar : Option Addr} {l : List Rw} {ad : Option Addr} {c : Nat} {L : List Int} (hl : l.length ≤ 1000) (hrw : ∀ r ∈ l, r.L.length ≤ 1000000) (hn : n ≤ 1000) (hL : L.length ≤ 1000000) :
    ConF Tryz.prog 23 [nptr b, .slice ad L.length c] [vCells (some ⟨b, 0, none⟩) [.int .i64 (n : Nat), ptr a, .slice ar l.length cr], vCells ar (rws l), vRws l, vCells ad (i64s L)]
      (fun v φo => v = .bool (decide (hasP n (Rls l) L)) ∧ φo = []) := by
 have _ := hn
 have hsl := srtI_len L
 refine ConF_of Tryz.func23 rfl 69 (_ :: _ :: rp 67) rfl rfl ?_; intro w0; refine JC_st [] [_, _, _, _] ?_; refine JC_sr ?_; refine JL_a ?_; refine JL_dv 69 ?_; refine JC_seq ?_; refine JC_seq ?_
 rcases (by omega : L.length ≠ n ∨ L.length = n) with hln | hln
 ·refine JC_drawT mixed 19 [spV 11 [] _, spV 12 [0] _, spV 13 [1] _, spV 14 [2] _, spV 15 [2, 3] _, spV 16 [2] _, spV 17 [2, 5] _, spV 18 [2, 6] _, spV 19 [2, 7] _, spV 20 [2, 4, 8] _, spV 21 [2, 9] _, spV 22 [10] _, spV 23 [11] _, spV 24 [11, 12] _, spV 25 [11, 13] _, spV 26 [11] _, spV 27 [11, 15] _, spV 28 [11, 16] _, spV 29 [11, 17] _] ⟨oM, OblS_V (fun vals ex ψ => (by refine JL_eqlPtr pt25 rfl rfl ?_; exact vz rfl)), oM, oG, OblS_V (fun vals ex ψ => (by refine JL_normQ _ (_ :: _ :: _ :: _ :: ψ) rfl rfl ?_; refine JL_gy ?_; refine JL_len sl32 rfl ?_; exact vz rfl)), oG, OblS_V (fun vals ex ψ => (by refine JL_normQ _ (_ :: _ :: _ :: _ :: ψ) rfl rfl ?_; refine JL_gy ?_; refine JL_nilCheckE rfl ?_; exact vz rfl)), OblS_V (fun vals ex ψ => (by refine JL_normQ _ (_ :: _ :: _ :: _ :: ψ) rfl rfl ?_; refine JL_gy ?_; refine JL_fieldAddrE fo63_0 rfl (by first | exact Reads.view am) (show 0 < [Value.int .i64 (n : Nat), ptr a, .slice ar l.length cr].length from Nat.zero_lt_succ _) ?_; exact vz rfl)), OblS_V (fun vals ex ψ => (by refine JL_normQ _ (_ :: _ :: _ :: _ :: ψ) rfl rfl ?_; refine JL_gy ?_; refine JL_loadE ty3 rfl (by first | exact Reads.view am) rfl ?_; exact vz rfl)), OblS_V (fun vals ex ψ => (by refine JL_gy ?_; refine JL_neq rfl rfl ?_; rw [decide_eq_true (p := ((L.length : Nat) : Int) ≠ ((n : Nat) : Int)) (by omega)]; exact vz rfl)), OblS_V (fun vals ex ψ => (by refine JL_pick_f rfl rfl ?_; exact vz rfl)), oM, oN, oN, oN, oN, oN, oN, oN, trivial⟩ (by kernel_rfl) (fun vals bs => ?_)
  refine JL_normL [_, _, _] ⟨69, [(11, _), (12, _), (13, _), (14, _), (15, _), (16, _), (17, _), (18, _), (19, _), (20, _), (21, _), (22, _), (23, _), (24, _), (25, _), (26, _), (27, _), (28, _), (29, _)], _⟩ [] [_, _, _, _] rfl rfl rfl rfl ?_; refine JL_gn ?_; refine JL_gn ?_; refine JL_pick_t rfl rfl ?_; refine JL_du 69 [] [_, _, _, _] ?_; refine JC_true rfl ?_; refine JC_sr ?_; refine JL_a ?_; refine JL_dv 69 ?_; refine JC_ret ?_; refine JE_then_ret ?_; refine JE_ret (vs := [_]) [] Tryz.results23 ⟨rfl, rfl⟩ ?_ ?_
  · rw [decide_eq_false (p := hasP n (Rls l) L) (fun h => by first | exact hln h.1 | exact h30 h.2.1)]; exact ⟨rfl, rfl⟩
  · exact all_nil
 ·refine JC_drawT mixed 19 [spV 11 [] _, spV 12 [0] _, spV 13 [1] _, spV 14 [2] _, spV 15 [2, 3] _, spV 16 [2] _, spV 17 [2, 5] _, spV 18 [2, 6] _, spV 19 [2, 7] _, spV 20 [2, 4, 8] _, spV 21 [2, 9] _, spV 22 [10] _, spV 23 [11] _, spC 24 [11, 12] _, spC 25 [11, 13] _, spV 26 [11] _, spV 27 [11, 15] _, spV 28 [11, 16] _, spV 29 [11, 17] _] ⟨oM, OblS_V (fun vals ex ψ => (by refine JL_eqlPtr pt25 rfl rfl ?_; exact vz rfl)), oM, oG, OblS_V (fun vals ex ψ => (by refine JL_normQ _ (_ :: _ :: _ :: _ :: ψ) rfl rfl ?_; refine JL_gy ?_; refine JL_len sl32 rfl ?_; exact vz rfl)), oG, OblS_V (fun vals ex ψ => (by refine JL_normQ _ (_ :: _ :: _ :: _ :: ψ) rfl rfl ?_; refine JL_gy ?_; refine JL_nilCheckE rfl ?_; exact vz rfl)), OblS_V (fun vals ex ψ => (by refine JL_normQ _ (_ :: _ :: _ :: _ :: ψ) rfl rfl ?_; refine JL_gy ?_; refine JL_fieldAddrE fo63_0 rfl (by first | exact Reads.view am) (show 0 < [Value.int .i64 (n : Nat), ptr a, .slice ar l.length cr].length from Nat.zero_lt_succ _) ?_; exact vz rfl)), OblS_V (fun vals ex ψ => (by refine JL_normQ _ (_ :: _ :: _ :: _ :: ψ) rfl rfl ?_; refine JL_gy ?_; refine JL_loadE ty3 rfl (by first | exact Reads.view am) rfl ?_; exact vz rfl)), OblS_V (fun vals ex ψ => (by refine JL_gy ?_; refine JL_neq rfl rfl ?_; rw [decide_eq_false (p := ((L.length : Nat) : Int) ≠ ((n : Nat) : Int)) (by omega)]; exact vz rfl)), OblS_V (fun vals ex ψ => (by refine JL_pick_f rfl rfl ?_; exact vz rfl)), oM, oG, OblS_C (fun vals ex ψ => (by
    refine JL_normQ ⟨69, [(11, _), (12, _), (13, _), (14, _), (15, _), (16, _), (17, _), (18, _), (19, _), (20, _), (21, _), (22, _), (23, _), (24, _), (25, _), (26, _), (27, _), (28, _), (29, _)], _⟩ (_ :: _ :: _ :: _ :: ψ) rfl rfl ?_; refine JL_gy ?_; refine JL_callF' Asks.nil (valuesI_con) rfl ca50 ⟨rfl, rfl⟩ ?_; exact fun v φo hP => JL_nil (JE_stepC φo rfl hP (fun p hp => mapB_l hp) (fun p hp => mapB_r (ss0 p hp))))), OblS_C (fun vals ex ψ => (by refine JL_normQ ⟨69, [(11, _), (12, _), (13, _), (14, _), (15, _), (16, _), (17, _), (18, _), (19, _), (20, _), (21, _), (22, _), (23, _), (24, _), (25, _), (26, _), (27, _), (28, _), (29, _)], _⟩ (_ :: _ :: _ :: _ :: _ :: ψ) rfl rfl ?_; generalize vals 13 = x24; refine JL_usePost mm0 (fun φo hP => ?_); obtain ⟨B24, rfl, rfl⟩ := hP; refine JL_norm _ _ (_ :: _ :: _ :: _ :: _ :: _ :: ψ) rfl rfl rfl ?_; refine JL_gy ?_; refine JL_callF' (Asks.cons (holds_of_mem am) (Asks.cons (holds_of_mem am) Asks.nil)) (sortedV_con (by omega)) rfl ca49 ⟨rfl, rfl⟩ ?_; exact fun v φo hP => JL_nil (JE_stepC φo rfl hP (fun p hp => mapB_l hp) (fun p hp => mapB_r ((ssS ss0) p hp))))), oG, OblS_V (fun vals ex ψ => (by refine JL_normQ _ (_ :: _ :: _ :: _ :: ψ) rfl rfl ?_; refine JL_gy ?_; refine JL_nilCheckE rfl ?_; exact vz rfl)), OblS_V (fun vals ex ψ => (by refine JL_normQ _ (_ :: _ :: _ :: _ :: ψ) rfl rfl ?_; refine JL_gy ?_; refine JL_fieldAddrE fo63_0 rfl (by first | exact Reads.view am) (show 0 < [Value.int .i64 (n : Nat), ptr a, .slice ar l.length cr].length from Nat.zero_lt_succ _) ?_; exact vz rfl)), OblS_V (fun vals ex ψ => (by refine JL_normQ _ (_ :: _ :: _ :: _ :: ψ) rfl rfl ?_; refine JL_gy ?_; refine JL_loadE ty3 rfl (by first | exact Reads.view am) rfl ?_; exact vz rfl)), trivial⟩ (by kernel_rfl) (fun vals bs => ?_)
  refine JL_normL [_, _, _] ⟨69, [(11, _), (12, _), (13, _), (14, _), (15, _), (16, _), (17, _), (18, _), (19, _), (20, _), (21, _), (22, _), (23, _), (24, _), (25, _), (26, _), (27, _), (28, _), (29, _)], _⟩ [] [_, _, _, _, _, _] rfl rfl rfl rfl ?_; generalize vals (0 + 1 + 1 + 1 + 1 + 1 + 1 + 1 + 1 + 1 + 1 + 1 + 1 + 1) = x24; generalize vals (0 + 1 + 1 + 1 + 1 + 1 + 1 + 1 + 1 + 1 + 1 + 1 + 1 + 1 + 1) = x25; refine JL_usePost (mmS mm0) (fun φo hP => ?_); obtain ⟨ad25, c25, rfl, hc25, rfl⟩ := hP; refine JL_norm _ [] [_, _, _, _, _, _, _] rfl rfl rfl ?_; refine JL_gy ?_; refine JL_callF' (Asks.cons (holds_of_mem am) Asks.nil) (asc_con (by omega)) rfl ca37 ⟨rfl, rfl, rfl⟩ ?_; rintro _ _ ⟨rfl, rfl⟩; refine JL_split (fun h30 => ?_) (fun h30 => ?_)
  ·refine JL_gy ?_; refine JL_not rfl ?_; rw [Bool.not_true]; refine JL_pick_f rfl rfl ?_; refine JL_du 69 [] [_, _, _, _, _, _, _] ?_; refine JC_false rfl ?_; refine JC_skip ?_; refine JE_then ?_; refine JC_seq ?_; refine JC_sr ?_; refine JL_m ?_; refine JL_nilCheckE rfl ?_; refine JL_fieldAddrE fo63_2 rfl (by first | exact Reads.view am) (show 0 < [Value.int .i64 (n : Nat), ptr a, .slice ar l.length cr].length from Nat.zero_lt_succ _) ?_; refine JL_loadE ty22 rfl (by first | exact Reads.view am) rfl ?_; refine JL_len sl22 rfl ?_; refine JL_m ?_; refine JL_dv 69 ?_; refine JC_block ?_; refine JC_loopS ((Nat)) (fun (k : Nat) => k ≤ l.length ∧ ∀ j, j < k → j < l.length → gapR (l.getD j dR).L L n) (fun (k : Nat) => l.length - k) (fun u (k : Nat) => (rn 4 (some (u 4) :: none :: sc u 6 5 (rn 27 (some (.int .i64 (k : Nat)) :: sc u 39 30 []))))) (fun (k : Nat) => []) (fun (k : Nat) => []) (0) (by kernel_rfl) ?_ (by kernel_rfl) ?_ ?_
   · exact ⟨Nat.zero_le _, fun j hj => absurd hj (Nat.not_lt_zero _)⟩
   · exact subset_nil
   intro u k hC; obtain ⟨hk, hg⟩ := hC; refine JC_nm 69 [] [_, _, _, _, _, _, _] ?_; refine JC_sr ?_; refine JL_lss rfl rfl ?_; refine JL_split (fun h39 => ?_) (fun h39 => ?_)
   ·refine JL_dv 69 ?_; refine JC_seq ?_; refine JC_true rfl ?_; refine JC_skip ?_; refine JE_then ?_; refine JC_seq ?_; refine JC_block ?_; refine JC_seq ?_
    have hkm := rw_mem (l := l) (i := k) (by omega)
    have hrl := hrw _ hkm
    refine JC_rwGet (f := false) (l.getD k dR) am hkm ?_; refine JC_region ?_; refine JL_idx k sl22 rfl rfl (by omega) (by omega) (by first | exact Reads.view am) (by rw [rws_length]; omega) ?_; refine JL_loadE ty32 rfl (by first | exact Reads.view am) (rws_get (by omega)) ?_; refine JL_a ?_; refine JL_dv 69 ?_; refine JC_sr ?_; refine JL_m ?_; refine JL_nilCheckE rfl ?_; refine JL_fieldAddrE fo63_0 rfl (by first | exact Reads.view am) (show 0 < [Value.int .i64 (n : Nat), ptr a, .slice ar l.length cr].length from Nat.zero_lt_succ _) ?_; refine JL_loadE ty3 rfl (by first | exact Reads.view am) rfl ?_; refine JL_a ?_; refine JL_a ?_; refine JL_dv 69 ?_; refine JC_seq ?_; refine JC_sr ?_; refine JL_m ?_; refine JL_len sl32 rfl ?_; refine JL_m ?_; refine JL_dv 69 ?_; refine JC_block ?_
    refine JC_loopS ((Nat) × (Int) × (Int)) (fun (i, fi, la) => i ≤ L.length ∧ (fi, la) = rngR (l.getD k dR).L L n i) (fun (i, fi, la) => L.length - i) (fun u (i, fi, la) => (rn 7 (some (.int .i64 fi) :: some (.int .i64 la) :: sc u 9 2 (rn 37 (some (.int .i64 (i : Nat)) :: sc u 49 12 []))))) (fun (i, fi, la) => []) (fun (i, fi, la) => []) (0, (n : Int), -1) (by kernel_rfl) ?_ (by kernel_rfl) ?_ ?_
    · exact ⟨Nat.zero_le _, rfl⟩
    · exact subset_nil
    intro u i hC; obtain ⟨i, fi, la⟩ := i; obtain ⟨hi, hr⟩ := hC; refine JC_nm 69 [] [_, _, _, _, _, _, _, _] ?_; refine JC_sr ?_; refine JL_lss rfl rfl ?_; refine JL_split (fun h49 => ?_) (fun h49 => ?_)
    ·refine JL_dv 69 ?_; refine JC_seq ?_; refine JC_true rfl ?_; refine JC_skip ?_; refine JE_then ?_; refine JC_seq ?_; refine JC_block ?_; refine JC_sr ?_; refine JL_m ?_; refine JL_idx i sl32 rfl rfl rfl (by omega) (by first | exact Reads.view am) (by first | (rw [u32s_length]; omega) | (rw [i64s_length]; omega)) ?_; refine JL_loadE ty3 rfl (by first | exact Reads.view am) (i64s_get (by omega)) ?_; refine JL_a ?_; refine JL_a ?_; refine JL_dv 69 ?_; refine JC_sr ?_; refine JL_m ?_; refine JL_m ?_; refine JL_callF' (Asks.cons (holds_of_mem am) Asks.nil) (contV_con (by omega)) rfl ca51 ⟨rfl, rfl, rfl⟩ ?_; rintro _ _ ⟨rfl, rfl⟩; refine JL_split (fun h55 => ?_) (fun h55 => ?_)
     ·refine JL_du 69 [] [_, _, _, _, _, _, _, _] ?_; refine JC_true rfl ?_; refine JC_region ?_; refine JL_m ?_; refine JL_m ?_; refine JL_min rfl rfl ?_; refine JL_m ?_; refine JL_a ?_; refine JL_a ?_; refine JL_nv 69 ?_; refine JE_block_normal ?_; refine JE_then ?_; refine JC_region ?_; refine JL_add_to rfl rfl (IntWalk.i64_in _ (by omega)) ?_; refine JL_m ?_; refine JL_nv 69 ?_; refine JE_nextS (i + 1, if (i : Int) < fi then (i : Int) else fi, (i : Int)) (by kernel_rfl) ?_ ?_ (by kernel_rfl) ?_
      · exact ⟨by omega, by rw [rngR, if_pos h55, ← hr]⟩
      · first | omega | (dsimp only; omega)
      · exact subset_app subset_nil ss0
     ·refine JL_du 69 [] [_, _, _, _, _, _, _, _] ?_; refine JC_false rfl ?_; refine JC_skip ?_; refine JE_block_normal ?_; refine JE_then ?_; refine JC_region ?_; refine JL_add_to rfl rfl (IntWalk.i64_in _ (by omega)) ?_; refine JL_m ?_; refine JL_nv 69 ?_; refine JE_nextS (i + 1, fi, la) (by kernel_rfl) ?_ ?_ (by kernel_rfl) ?_
      · exact ⟨by omega, by rw [rngR, if_neg h55, ← hr]⟩
      · first | omega | (dsimp only; omega)
      · exact subset_app subset_nil ss0
    ·refine JL_dv 69 ?_; refine JC_seq ?_; refine JC_false rfl ?_; refine JC_exit ?_; refine JE_then_exit ?_; refine JE_nextS_exit ?_; refine JE_block_exit ?_; refine JE_then ?_; refine JC_seq ?_; obtain rfl : i = L.length := by omega
     have hbd := rngR_bd (l.getD k dR).L L n L.length
     rw [← hr] at hbd
     dsimp only at hbd
     refine JC_region ?_; refine JL_m ?_; refine JL_m ?_; refine JL_sub_to rfl rfl (IntWalk.i64_in _ (by omega)) ?_; refine JL_add_to rfl rfl (IntWalk.i64_in _ (by omega)) ?_; refine JL_m ?_; refine JL_len sl32 rfl ?_; refine JL_neq rfl rfl ?_; refine JL_split (fun h67 => ?_) (fun h67 => ?_)
     ·refine JL_dv 69 ?_; refine JC_true rfl ?_; refine JC_sr ?_; refine JL_a ?_; refine JL_dv 69 ?_; refine JC_ret ?_; refine JE_block_ret ?_; refine JE_then_ret ?_; refine JE_nextS_ret ?_; refine JE_block_ret ?_; refine JE_then_ret ?_; refine JE_ret (vs := [_]) [] Tryz.results23 ⟨rfl, rfl⟩ ?_ ?_
      · rw [decide_eq_false (p := hasP n (Rls l) L) (hasP_no (k := k) (by omega) (fun h => h67 (by unfold gapR at h; rw [← hr] at h; exact h)))]; exact ⟨rfl, rfl⟩
      · exact all_nil
     ·refine JL_dv 69 ?_; refine JC_false rfl ?_; refine JC_skip ?_; refine JE_block_normal ?_; refine JE_then ?_; refine JC_region ?_; refine JL_add_to rfl rfl (IntWalk.i64_in _ (by omega)) ?_; refine JL_m ?_; refine JL_nv 69 ?_; refine JE_nextS (k + 1) (by kernel_rfl) ?_ ?_ (by kernel_rfl) ?_
      · exact ⟨by omega, fun j hj hj2 => by
        rcases Nat.lt_or_ge j k with h | h
        · exact hg j h hj2
        · obtain rfl : j = k := by omega
          unfold gapR; rw [← hr]; omega⟩
      · first | omega | (dsimp only; omega)
      · exact subset_app subset_nil (ssS ss0)
   ·refine JL_dv 69 ?_; refine JC_seq ?_; refine JC_false rfl ?_; refine JC_exit ?_; refine JE_then_exit ?_; refine JE_nextS_exit ?_; refine JE_block_exit ?_; refine JE_then ?_; refine JC_sr ?_; refine JL_a ?_; refine JL_dv 69 ?_; refine JC_ret ?_; refine JE_ret (vs := [_]) [] Tryz.results23 ⟨rfl, rfl⟩ ?_ ?_
    · rw [decide_eq_true (p := hasP n (Rls l) L) (hasP_yes (k := k) hln h30 (by omega) hg)]; exact ⟨rfl, rfl⟩
    · exact all_nil
  ·refine JL_gy ?_; refine JL_not rfl ?_; rw [Bool.not_false]; refine JL_pick_f rfl rfl ?_; refine JL_du 69 [] [_, _, _, _, _, _, _] ?_; refine JC_true rfl ?_; refine JC_sr ?_; refine JL_a ?_; refine JL_dv 69 ?_; refine JC_ret ?_; refine JE_then_ret ?_; refine JE_ret (vs := [_]) [] Tryz.results23 ⟨rfl, rfl⟩ ?_ ?_
   · rw [decide_eq_false (p := hasP n (Rls l) L) (fun h => by first | exact hln h.1 | exact h30 h.2.1)]; exact ⟨rfl, rfl⟩
   · exact all_nil

end Go.Fw.K
