/- Walks through functions of the given program: each meets its contract. (Printed by a program of this repo.) -/
import Derived.Test.YtjkbamfcoiikmaaGreatDoorMG
import Derived.Test.YtjkbamfcoiikmaaGreatDoorPqZc
import Derived.Test.YtjkbamfcoiikmaaGreatDoorProg
namespace Go.Fw.T4
open Go Go.RowKit Go.Proofs Go.Nat9 Go.Fw
attribute [local irreducible] JC JL JE
theorem ca16 : callable Tryz.prog 16 = true := by kernel_rfl
theorem ca18 : callable Tryz.prog 18 = true := by kernel_rfl
theorem ca20 : callable Tryz.prog 20 = true := by kernel_rfl
theorem ca22 : callable Tryz.prog 22 = true := by kernel_rfl
theorem ca23 : callable Tryz.prog 23 = true := by kernel_rfl
theorem ca30 : callable Tryz.prog 30 = true := by kernel_rfl
theorem ca31 : callable Tryz.prog 31 = true := by kernel_rfl
theorem ca32 : callable Tryz.prog 32 = true := by kernel_rfl
theorem ca8 : callable Tryz.prog 8 = true := by kernel_rfl
theorem ca9 : callable Tryz.prog 9 = true := by kernel_rfl
theorem mixed : Tryz.prog.follows .mixedOrders = true := by kernel_rfl
theorem sl22 : slOf Tryz.prog 22 = some (32, 1, 24, [.slice none 0 0]) := by kernel_rfl
theorem ty32 : tyOf Tryz.prog 32 = some (false, 1) := by kernel_rfl
theorem ub4 : Tryz.prog.underlying 4 = some .bool := by kernel_rfl
end Go.Fw.T4
namespace Go.Fw.K
open Go Go.RowKit Go.Proofs Go.Nat9 Go.Fw Go.Fw.T4
attribute [local irreducible] JC JL JE

open Go.Fw.Pq
set_option maxHeartbeats 4000000 in
set_option maxRecDepth 20000 in
theorem pqtreeOrders_conA {n : Int} (hm1 : -9223372036854775808 ≤ n) (hm2 : n ≤ 9223372036854775807) {ad : Option Addr} {c : Nat} {l : List Rw} (hc : l.length ≤ c ∧ c ≤ 9223372036854775807) :
    ConA Tryz.prog 6 [.int .i64 n, .slice ad l.length c] [vCells ad (rws l), vRws l]
      (fun v φo => v = .bool true ∧ φo = []) := by
  have _ := hm1
  have _ := hm2
  refine ConA_of Tryz.func6 rfl 103 _ rfl rfl ?_; intro w0; refine JC_norm ⟨103, [], [_, _, _, _, _, _, _, _, _, _, _, _, _, _, _, _, _, _, _, _, _, _, _, _, _, _, _, _, _, _, _, _, _, _, _, _, _, _, _, _, _, _, _, _, _, _, _, _, _, _, _, _, _, _, _, _, _, _, _, _, _, _, _, _, _, _, _, _, _, _, _, _, _, _, _, _, _, _, _, _, _, _, _, _, _, _, _, _, _, _, _, _, _, _, _, _, _, _, _, _, _, _, _]⟩ [] [_, _] rfl rfl rfl ?_; refine JC_sr ?_; refine JL_assign rfl ?_; refine JL_du 103 [] [_, _] ?_; refine JC_seq ?_; refine JC_seq ?_
  rcases (by omega : (1 ≤ n ∧ n ≤ 5) ∨ (n < 1 ∨ 5 < n)) with hn | hn
  · obtain ⟨m, rfl⟩ : ∃ m : Nat, n = (m : Int) := ⟨n.toNat, by omega⟩
    have hlo : 1 ≤ m := by omega
    have hhi : m ≤ 5 := by omega
    refine JC_region ?_; refine JL_callF' Asks.nil (awake_con) rfl ca8 rfl ?_; rintro _ _ ⟨rfl, rfl⟩; refine JL_not rfl ?_; rw [Bool.not_true]; refine JL_m ?_; refine JL_gy ?_; refine JL_m ?_; refine JL_gy ?_; refine JL_callF' (Asks.cons (holds_of_mem am) Asks.nil) (few_con hc) rfl ca9 ⟨rfl, rfl⟩ ?_; rintro _ _ ⟨rfl, rfl⟩; refine JL_split (fun h18 => ?_) (fun h18 => ?_)
    · refine JL_gy ?_; refine JL_not rfl ?_; rw [Bool.not_true]; refine JL_pick_f rfl rfl ?_; refine JL_m ?_; refine JL_gy ?_; refine JL_m ?_; refine JL_gy ?_; refine JL_lss rfl rfl ?_; refine JL_split (fun h23 => ?_) (fun h23 => ?_)
      · exact absurd h23 (by omega)
      · refine JL_pick_f rfl rfl ?_; refine JL_m ?_; refine JL_gy ?_; refine JL_m ?_; refine JL_gy ?_; refine JL_gtr rfl rfl ?_; refine JL_split (fun h27 => ?_) (fun h27 => ?_)
        · exact absurd h27 (by omega)
        · refine JL_pick_f rfl rfl ?_; refine JL_du 103 [] [_, _] ?_; refine JC_false rfl ?_; refine JC_skip ?_; refine JE_then ?_; refine JC_sr ?_; refine JL_m ?_; refine JL_m ?_; refine JL_callO0 (AsksO.cons am (AsksO.cons am AsksO.nil)) (acc_con hlo (by omega) hc h18) rfl ca30 ⟨rfl, rfl, rfl⟩ ?_; rintro _ _ _ ⟨b33, a33, l33, ar33, cr33, ad33, c33, rfl, rfl, rfl, hf33, hT33, hl33⟩; refine JL_norm _ [box _ _ [_, _, _], osl _ _ _ _ _ _] [_, _, _, _, _, _] rfl rfl rfl ?_; refine JL_m ?_; refine JL_extract (v := .slice ad33 (accS m l).2.length c33) rfl rfl ?_; refine JL_extract (v := .pointer (some ⟨b33, 0, none⟩)) rfl rfl ?_; refine JL_assign rfl ?_; refine JL_assign rfl ?_; refine JL_du 103 [box _ _ [_, _, _], osl _ _ _ _ _ _] [_, _, _, _, _, _] ?_; refine JC_seq ?_
          have hAsc := (accS_ord hlo l).2
          have hrl := accS_len m l
          have hf14 := h18.2
          have hN33 : Tn m (er a33) := by have h := bT_Tn (n := m) hlo (Rls l); rw [← hT33] at h; exact h
          have hWs := (bT_ord hlo (Rls l)).2
          rw [← hT33] at hWs; refine JC_region ?_; refine JL_m ?_; refine JL_callF' Asks.nil (ord_con hhi) rfl ca31 ⟨rfl, rfl⟩ ?_; rintro _ _ ⟨ad37, c37, O, rfl, hO, rfl⟩
          have hOl := len_of hO
          have hOm := ordF_len m hhi m (Nat.le_refl _)
          refine JL_assign rfl ?_; refine JL_du 103 [box _ _ [_, _, _], osl _ _ _ _ _ _] [_, _, _, _, _, _, _, _] ?_; refine JC_sr ?_; refine JL_assign rfl ?_; refine JL_du 103 [box _ _ [_, _, _], osl _ _ _ _ _ _] [_, _, _, _, _, _, _, _] ?_; refine JC_seq ?_; refine JC_sr ?_; refine JL_assign rfl ?_; refine JL_du 103 [box _ _ [_, _, _], osl _ _ _ _ _ _] [_, _, _, _, _, _, _, _] ?_; refine JC_block ?_
          refine JC_loopS ((Nat) × (Nat)) (fun (i, kk) => i ≤ O.length ∧ kk = cntF m (Rls l33) i) (fun (i, kk) => O.length - i) (fun u (i, kk) => [none, none, none, none, some (u 4), none, none, none, some (.int .u64 (kk : Nat)), some (.int .i64 (i : Nat)), some (u 10), some (u 11), none, none, none, none, none, none, none, none, none, none, none, none, none, none, none, none, none, none, none, none, none, none, none, none, none, none, some (u 38), some (u 39), some (u 40), some (u 41), some (u 42), some (u 43), some (u 44), some (u 45), some (u 46), some (u 47), some (u 48), some (u 49), some (u 50), some (u 51), some (u 52), some (u 53), some (u 54), some (u 55), some (u 56), some (u 57), some (u 58), some (u 59), some (u 60), some (u 61), some (u 62), some (u 63), some (u 64), some (u 65), some (u 66), some (u 67), some (u 68), some (u 69), some (u 70), some (u 71), some (u 72), some (u 73), some (u 74), some (u 75), some (u 76), some (u 77), some (u 78), some (u 79), some (u 80), some (u 81), some (u 82), some (u 83), some (u 84), some (u 85), some (u 86), none, none, none, none, none, none, none, none, none, none, none, none, none, none, none, none]) (fun (i, kk) => [none, none]) (fun (i, kk) => []) (0, 0) (by kernel_rfl) ?_ (by kernel_rfl) ?_ ?_
          · exact ⟨Nat.zero_le _, rfl⟩
          · exact subset_nil
          intro u i hC; obtain ⟨i, kk⟩ := i; obtain ⟨hi, hk⟩ := hC; refine JC_nm 103 [box _ _ [_, _, _], osl _ _ _ _ _ _] [_, _, _, _, _, _, _, _] ?_; refine JC_seq ?_; refine JC_sr ?_; refine JL_m ?_; refine JL_m ?_; refine JL_len sl22 rfl ?_; refine JL_lss rfl rfl ?_; refine JL_split (fun h41 => ?_) (fun h41 => ?_)
          · refine JL_du 103 [box _ _ [_, _, _], osl _ _ _ _ _ _] [_, _, _, _, _, _, _, _] ?_; refine JC_true rfl ?_; refine JC_skip ?_; refine JE_then ?_; refine JC_seq ?_; refine JC_block ?_; refine JC_seq ?_
            have hOL := row_of hO (show i < O.length by omega)
            have hPp := ordF_perm m hhi _ (getD_memF (show i < (ordF m m).length by omega))
            have hPl : (O.getD i dR).L.length = m := by rw [hOL, zs_length, hPp.length_eq, List.length_range]
            refine JC_rwGet (f := true) (O.getD i dR) am (rw_mem (by omega)) ?_; refine JC_region ?_; refine JL_assign rfl ?_; refine JL_du 103 [box _ _ [_, _, _], osl _ _ _ _ _ _] [_, _, _, _, _, _, _, _, _] ?_; refine JC_seq ?_; refine JC_sr ?_; refine JL_assign rfl ?_; refine JL_du 103 [box _ _ [_, _, _], osl _ _ _ _ _ _] [_, _, _, _, _, _, _, _, _] ?_; refine JC_block ?_
            refine JC_loopS ((Nat) × (Bool)) (fun (j, fb) => j ≤ (accS m l).2.length ∧ (fb = true ↔ ∀ x, x < j → Con (nr ((accS m l).2.getD x dR).L) ((ordF m m).getD i []))) (fun (j, fb) => (accS m l).2.length - j) (fun u (j, fb) => [none, none, none, none, none, none, none, none, none, none, some (.bool fb), some (.int .i64 (j : Nat)), none, none, none, none, none, none, none, none, none, none, none, none, none, none, none, none, none, none, none, none, none, none, none, none, none, none, none, none, none, none, none, none, some (u 44), some (u 45), some (u 46), some (u 47), some (u 48), some (u 49), some (u 50), some (u 51), some (u 52), some (u 53), some (u 54), some (u 55), some (u 56), some (u 57), some (u 58), some (u 59), some (u 60), some (u 61), some (u 62), some (u 63), none, none, none, none, none, none, none, none, none, none, none, none, none, none, none, none, none, none, none, none, none, none, none, none, none, none, none, none, none, none, none, none, none, none, none, none, none, none, none]) (fun (j, fb) => [none, none]) (fun (j, fb) => []) (0, true) (by kernel_rfl) ?_ (by kernel_rfl) ?_ ?_
            · exact ⟨Nat.zero_le _, fun _ x hx => absurd hx (Nat.not_lt_zero _), fun _ => rfl⟩
            · exact subset_nil
            intro u i hC; obtain ⟨j, fb⟩ := i; obtain ⟨hj, hfb⟩ := hC; refine JC_nm 103 [box _ _ [_, _, _], osl _ _ _ _ _ _] [_, _, _, _, _, _, _, _, _] ?_; refine JC_seq ?_; refine JC_sr ?_; refine JL_m ?_; refine JL_m ?_; refine JL_len sl22 rfl ?_; refine JL_lss rfl rfl ?_; refine JL_split (fun h47 => ?_) (fun h47 => ?_)
            · refine JL_du 103 [box _ _ [_, _, _], osl _ _ _ _ _ _] [_, _, _, _, _, _, _, _, _] ?_; refine JC_true rfl ?_; refine JC_skip ?_; refine JE_then ?_; refine JC_seq ?_; refine JC_block ?_
              rcases fb with _ | _
              · refine JC_drawT mixed 12 [spV 50 [] _, spV 51 [0] _, spV 52 [1] _, spV 53 [1] _, spV 54 [1] _, spV 55 [1, 3, 4] _, spV 56 [1, 5] _, spV 57 [1, 6] _, spV 58 [1] _, spV 59 [1] _, spV 60 [1, 8, 9] _, spV 61 [1, 10] _] ⟨oM, oM, oN, oN, oN, oN, oN, oN, oN, oN, oN, oN, trivial⟩ (by kernel_rfl) (fun vals bs => ?_); refine JL_normL [_, _, _] ⟨103, [(50, _), (51, _), (52, _), (53, _), (54, _), (55, _), (56, _), (57, _), (58, _), (59, _), (60, _), (61, _)], _⟩ [box _ _ [_, _, _], osl _ _ _ _ _ _] [_, _, _, _, _, _, _, _, _] rfl rfl rfl rfl ?_; refine JL_gn ?_; refine JL_pick_f rfl rfl ?_; refine JL_assign rfl ?_; refine JL_nu 103 [box _ _ [_, _, _], osl _ _ _ _ _ _] [_, _, _, _, _, _, _, _, _] ?_; refine JE_block_normal ?_; refine JE_then ?_; refine JC_region ?_; refine JL_m ?_; refine JL_add_to rfl rfl (IntWalk.i64_in _ (by omega)) ?_; refine JL_assign rfl ?_; refine JL_nu 103 [box _ _ [_, _, _], osl _ _ _ _ _ _] [_, _, _, _, _, _, _, _, _] ?_; refine JE_nextS (j + 1, false) (by kernel_rfl) ?_ ?_ (by kernel_rfl) ?_
                · exact ⟨by omega, ⟨fun e => (by cases e), fun h => hfb.2 fun x hx => h x (by omega)⟩⟩
                · first | omega | (dsimp only; omega)
                · exact subset_app subset_nil ss0
              · have hjm := rw_mem (l := (accS m l).2) (i := j) (by omega)
                have hjr := h18.row (accS_mem _ hjm)
                refine JC_addView (p := vRws [((accS m l).2.getD j dR)]) (f := true) (fun _ s r hr => s.views (true, vRws (accS m l).2) am r (by rw [List.mem_singleton.1 hr]; exact hjm)) ?_; refine JC_drawT mixed 12 [spV 50 [] _, spV 51 [0] _, spV 52 [1] _, spV 53 [1] _, spV 54 [1] _, spV 55 [1, 3, 4] _, spV 56 [1, 5] _, spC 57 [1, 6] (fun v φo => ∃ (g : Nat), v = .slice (some ⟨g, 0, none⟩) 1 1 ∧ φo = [vCells (some ⟨g, 0, none⟩) (rws [((accS m l).2.getD j dR)])]), spV 58 [1] _, spV 59 [1] _, spV 60 [1, 8, 9] _, spV 61 [1, 10] _] ⟨oM, oM, oG, oG, oG, OblS_V (fun vals ex ψ => (by refine JL_normQ _ (_ :: _ :: _ :: _ :: _ :: _ :: _ :: _ :: _ :: _ :: ψ) rfl rfl ?_; refine JL_gy ?_; refine JL_idx j sl22 rfl rfl (by omega) (by omega) (by first | exact Reads.view am | (exact Reads.own 1 rfl)) (by rw [rws_length]; omega) ?_; exact vz rfl)), OblS_V (fun vals ex ψ => (by refine JL_normQ _ (_ :: _ :: _ :: _ :: _ :: _ :: _ :: _ :: _ :: _ :: ψ) rfl rfl ?_; refine JL_gy ?_; refine JL_loadE ty32 rfl (by first | exact Reads.view am | (exact Reads.own 1 rfl)) (rws_get (by omega)) ?_; exact vz rfl)), OblS_C (fun vals ex ψ => (by refine JL_normQ ⟨103, [(50, _), (51, _), (52, _), (53, _), (54, _), (55, _), (56, _), (57, _), (58, _), (59, _), (60, _), (61, _)], _⟩ (_ :: _ :: _ :: _ :: _ :: _ :: _ :: _ :: _ :: _ :: ψ) rfl rfl ?_; refine JL_gy ?_; refine JL_build1 (v := ((accS m l).2.getD j dR).v) sl22 rfl rfl (fun g57 => ?_); rw [show [((accS m l).2.getD j dR).v] = rws [((accS m l).2.getD j dR)] from rfl]; refine JL_giveLast ?_; exact JL_nil (JE_stepC [vCells (some ⟨g57, 0, none⟩) (rws [((accS m l).2.getD j dR)])] rfl ⟨g57, rfl, rfl⟩ (all_cons am all_nil) (ssS ss0)))), oG, oG, OblS_V (fun vals ex ψ => (by
                    refine JL_normQ _ (_ :: _ :: _ :: _ :: _ :: _ :: _ :: _ :: _ :: _ :: ψ) rfl rfl ?_; refine JL_gy ?_; refine JL_idx i sl22 rfl rfl (by omega) (by omega) (by first | exact Reads.view am | (exact Reads.own 1 rfl)) (by rw [rws_length]; omega) ?_; exact vz rfl)), OblS_V (fun vals ex ψ => (by refine JL_normQ _ (_ :: _ :: _ :: _ :: _ :: _ :: _ :: _ :: _ :: _ :: ψ) rfl rfl ?_; refine JL_gy ?_; refine JL_loadE ty32 rfl (by first | exact Reads.view am | (exact Reads.own 1 rfl)) (rws_get (by omega)) ?_; exact vz rfl)), trivial⟩ (by kernel_rfl) (fun vals bs => ?_)
                refine JL_normL [_, _, _] ⟨103, [(50, _), (51, _), (52, _), (53, _), (54, _), (55, _), (56, _), (57, _), (58, _), (59, _), (60, _), (61, _)], _⟩ [box _ _ [_, _, _], osl _ _ _ _ _ _] [_, _, _, _, _, _, _, _, _, _, _] rfl rfl rfl rfl ?_; generalize vals (0 + 1 + 1 + 1 + 1 + 1 + 1 + 1) = x57; refine JL_usePost mm0 (fun φo hP => ?_); obtain ⟨g57, rfl, rfl⟩ := hP; refine JL_norm _ [box _ _ [_, _, _], osl _ _ _ _ _ _] [_, _, _, _, _, _, _, _, _, _, _, _] rfl rfl rfl ?_; refine JL_gy ?_; refine JL_callF' (Asks.cons (by first | exact holds_of_mem am | (exact holds_of_own 1 rfl)) (Asks.cons (by first | exact holds_of_mem am | (exact holds_of_own 1 rfl)) (Asks.cons (by first | exact holds_of_mem am | (exact holds_of_own 1 rfl)) Asks.nil))) (cis_con (l := [((accS m l).2.getD j dR)]) (by omega) (by show 1 ≤ 16; omega) (fun r hr => by rw [List.mem_singleton.1 hr]; omega) (fun q hq => by obtain rfl : q = 0 := Nat.lt_one_iff.1 hq; exact hAsc _ hjm) (by omega) ⟨_, hOL, hPp⟩) rfl ca32 ⟨rfl, rfl, rfl, rfl⟩ ?_; rintro _ _ ⟨rfl, rfl⟩; refine JL_pick_t rfl rfl ?_; refine JL_assign rfl ?_; refine JL_nu 103 [box _ _ [_, _, _], osl _ _ _ _ _ _] [_, _, _, _, _, _, _, _, _, _, _, _] ?_
                refine JE_block_normal ?_; refine JE_then ?_; refine JC_region ?_; refine JL_m ?_; refine JL_add_to rfl rfl (IntWalk.i64_in _ (by omega)) ?_; refine JL_assign rfl ?_; refine JL_nu 103 [box _ _ [_, _, _], osl _ _ _ _ _ _] [_, _, _, _, _, _, _, _, _, _, _, _] ?_; refine JE_nextS (j + 1, decide (gapS [((accS m l).2.getD j dR)] (O.getD i dR).L [((accS m l).2.getD j dR)].length = 0)) (by kernel_rfl) ?_ ?_ (by kernel_rfl) ?_
                · exact ⟨by omega, fits_step hfb (by rw [hOL]; exact gapS_one (hAsc _ (rw_mem (by omega)))) ⟩
                · first | omega | (dsimp only; omega)
                · exact subset_app subset_nil (ssS (ssS (ssS ss0)))
            · refine JL_du 103 [box _ _ [_, _, _], osl _ _ _ _ _ _] [_, _, _, _, _, _, _, _, _] ?_; refine JC_false rfl ?_; refine JC_exit ?_; refine JE_then_exit ?_; refine JE_nextS_exit ?_; refine JE_block_exit ?_; refine JE_then ?_; refine JC_seq ?_; refine JC_seq ?_
              have hfF : fb = true ↔ Pq.Fr (er a33) ((ordF m m).getD i []) := by rw [hfb, ← fits_iff hlo hT33 hPp]; exact ⟨fun h x hx => h x (by omega), fun h x hx => h x (by omega)⟩
              have hhF := has_iff hlo hT33 hPp
              rw [← hOL] at hhF
              have hcs := cntF_succ (W := Rls l33) (show i < (ordF m m).length by omega)
              rw [← hOL, ← hk] at hcs
              have hcl := cntF_le m hhi (Rls l33) i
              refine JC_region ?_; refine JL_m ?_; refine JL_m ?_; refine JL_m ?_; refine JL_m ?_; refine JL_idx i sl22 rfl rfl (by omega) (by omega) (by first | exact Reads.view am | (exact Reads.own 1 rfl)) (by rw [rws_length]; omega) ?_; refine JL_loadE ty32 rfl (by first | exact Reads.view am | (exact Reads.own 1 rfl)) (rws_get (by omega)) ?_; refine JL_callF' (Asks.cons (by first | exact holds_of_mem am | (exact holds_of_box 0 rfl) | (exact holds_of_own 1 rfl)) (Asks.cons (by first | exact holds_of_mem am | (exact holds_of_box 0 rfl) | (exact holds_of_own 1 rfl)) (Asks.cons (by first | exact holds_of_mem am | (exact holds_of_box 0 rfl) | (exact holds_of_own 1 rfl)) (Asks.cons (by first | exact holds_of_mem am | (exact holds_of_box 0 rfl) | (exact holds_of_own 1 rfl)) Asks.nil)))) (has_con (by omega) (fun r hr => by have := hWs r.L (List.mem_map.2 ⟨r, hr, rfl⟩); exact Nat.le_trans (asc_len this.1) (by omega)) (by omega) (by omega)) rfl ca23 ⟨rfl, rfl, rfl⟩ ?_; rintro _ _ ⟨rfl, rfl⟩; refine JL_neqB ub4 rfl rfl ?_; refine JL_splitNeB (fun h71 => ?_) (fun h71 => ?_)
              · exact absurd (has_eq hfF hhF) h71
              · refine JL_du 103 [box _ _ [_, _, _], osl _ _ _ _ _ _] [_, _, _, _, _, _, _, _, _] ?_; refine JC_false rfl ?_; refine JC_skip ?_; refine JE_then ?_; refine JC_sr ?_; refine JL_m ?_; refine JL_du 103 [box _ _ [_, _, _], osl _ _ _ _ _ _] [_, _, _, _, _, _, _, _, _] ?_; refine JC_cond rfl (fun hb => ?_) (fun hb => ?_)
                · have h72 := hb
                  refine JC_seq ?_; refine JC_seq ?_
                  have hin := hhF.2 (hfF.1 h72)
                  have hkn : kk + 1 = cntF m (Rls l33) (i + 1) := by rw [hcs, if_pos hin]
                  rw [← hk] at hcl
                  have hzl : (zs (fstT (er a33))).length ≤ 16 := by rw [zs_length, fst_len hN33.ok hN33.nodup, hN33.lvs_len]; omega
                  rcases Nat.eq_zero_or_pos kk with hk0 | hk0
                  · have hfe : (O.getD i dR).L = zs (fstT (er a33)) := by rw [hOL, fst_first hlo hhi hT33 (i := i) (by omega) (by rw [← hk]; exact hk0) (by rw [← hOL]; exact hin)]
                    refine JC_addView (p := vCells (O.getD i dR).ad (i64s (zs (fstT (er a33))))) (f := true) (fun _ s => by rw [← hfe]; exact s.views (true, vCells (O.getD i dR).ad (i64s (O.getD i dR).L)) am) ?_; refine JC_drawT mixed 9 [spV 73 [] _, spV 74 [0] _, spV 75 [1] _, spV 76 [2] _, spC 77 [2, 3] _, spV 78 [2] _, spV 79 [2] _, spV 80 [2, 5, 6] _, spV 81 [2, 7] _] ⟨oM, OblS_V (fun vals ex ψ => (by refine JL_eql rfl rfl ?_; rw [decide_eq_true (p := ((kk : Nat) : Int) = 0) (by omega)]; exact vz rfl)), oM, oG, OblS_C (fun vals ex ψ => (by refine JL_normQ ⟨103, [(73, _), (74, _), (75, _), (76, _), (77, _), (78, _), (79, _), (80, _), (81, _)], _⟩ (_ :: _ :: _ :: _ :: _ :: _ :: _ :: _ :: _ :: _ :: ψ) rfl rfl ?_; refine JL_gy ?_; refine JL_callF' (Asks.cons (by first | exact holds_of_mem am | (exact holds_of_box 0 rfl) | (exact holds_of_own 1 rfl)) (Asks.cons (by first | exact holds_of_mem am | (exact holds_of_box 0 rfl) | (exact holds_of_own 1 rfl)) Asks.nil)) (tfirst_con hf33 hN33 (by omega)) rfl ca20 ⟨rfl, rfl⟩ ?_; exact fun v φo hP => JL_nil (JE_stepC φo rfl hP (fun p hp => mapB_l hp) (fun p hp => mapB_r (ss0 p hp))))), oG, oG, OblS_V (fun vals ex ψ => (by refine JL_normQ _ (_ :: _ :: _ :: _ :: _ :: _ :: _ :: _ :: _ :: _ :: ψ) rfl rfl ?_; refine JL_gy ?_; refine JL_idx i sl22 rfl rfl (by omega) (by omega) (by first | exact Reads.view am | (exact Reads.own 1 rfl)) (by rw [rws_length]; omega) ?_; exact vz rfl)), OblS_V (fun vals ex ψ => (by
                        refine JL_normQ _ (_ :: _ :: _ :: _ :: _ :: _ :: _ :: _ :: _ :: _ :: ψ) rfl rfl ?_; refine JL_gy ?_; refine JL_loadE ty32 rfl (by first | exact Reads.view am | (exact Reads.own 1 rfl)) (rws_get (by omega)) ?_; rw [show (O.getD i dR).v = .slice (O.getD i dR).ad (zs (fstT (er a33))).length (O.getD i dR).cap from by unfold Rw.v; rw [hfe]]; exact vz rfl)), trivial⟩ (by kernel_rfl) (fun vals bs => ?_)
                    refine JL_normL [_, _, _] ⟨103, [(73, _), (74, _), (75, _), (76, _), (77, _), (78, _), (79, _), (80, _), (81, _)], _⟩ [box _ _ [_, _, _], osl _ _ _ _ _ _] [_, _, _, _, _, _, _, _, _, _, _] rfl rfl rfl rfl ?_; generalize vals (0 + 1 + 1 + 1 + 1) = x77; refine JL_usePost mm0 (fun φo hP => ?_); obtain ⟨ad77, c77, rfl, hc77, rfl⟩ := hP; refine JL_norm _ [box _ _ [_, _, _], osl _ _ _ _ _ _] [_, _, _, _, _, _, _, _, _, _, _, _] rfl rfl rfl ?_; refine JL_gy ?_; refine JL_callF' (Asks.cons (by first | exact holds_of_mem am | (exact holds_of_own 1 rfl)) (Asks.cons (by first | exact holds_of_mem am | (exact holds_of_own 1 rfl)) Asks.nil)) (bints_con (by omega)) rfl ca16 ⟨rfl, rfl, rfl⟩ ?_; rintro _ _ ⟨rfl, rfl⟩; refine JL_gy ?_; refine JL_not rfl ?_; rw [Bool.not_true]; refine JL_pick_t rfl rfl ?_; refine JL_du 103 [box _ _ [_, _, _], osl _ _ _ _ _ _] [_, _, _, _, _, _, _, _, _, _, _, _] ?_; refine JC_false rfl ?_; refine JC_skip ?_; refine JE_then ?_; refine JC_region ?_; refine JL_m ?_; refine JL_add_to rfl rfl (IntWalk.u64_in _ (by omega)) ?_; refine JL_assign rfl ?_; refine JL_nu 103 [box _ _ [_, _, _], osl _ _ _ _ _ _] [_, _, _, _, _, _, _, _, _, _, _, _] ?_
                    refine JE_block_normal ?_; refine JE_then ?_; refine JC_region ?_; refine JL_m ?_; refine JL_add_to rfl rfl (IntWalk.i64_in _ (by omega)) ?_; refine JL_assign rfl ?_; refine JL_nu 103 [box _ _ [_, _, _], osl _ _ _ _ _ _] [_, _, _, _, _, _, _, _, _, _, _, _] ?_; refine JE_nextS (i + 1, kk + 1) (by kernel_rfl) ?_ ?_ (by kernel_rfl) ?_
                    · exact ⟨by omega, hkn⟩
                    · first | omega | (dsimp only; omega)
                    · exact subset_app subset_nil (ssS (ssS (ssS (ssS ss0))))
                  · refine JC_drawT mixed 9 [spV 73 [] _, spV 74 [0] _, spV 75 [1] _, spV 76 [2] _, spV 77 [2, 3] _, spV 78 [2] _, spV 79 [2] _, spV 80 [2, 5, 6] _, spV 81 [2, 7] _] ⟨oM, OblS_V (fun vals ex ψ => (by refine JL_eql rfl rfl ?_; rw [decide_eq_false (p := ((kk : Nat) : Int) = 0) (by omega)]; exact vz rfl)), oM, oN, oN, oN, oN, oN, oN, trivial⟩ (by kernel_rfl) (fun vals bs => ?_)
                    refine JL_normL [_, _, _] ⟨103, [(73, _), (74, _), (75, _), (76, _), (77, _), (78, _), (79, _), (80, _), (81, _)], _⟩ [box _ _ [_, _, _], osl _ _ _ _ _ _] [_, _, _, _, _, _, _, _, _] rfl rfl rfl rfl ?_; refine JL_gn ?_; refine JL_gn ?_; refine JL_pick_f rfl rfl ?_; refine JL_du 103 [box _ _ [_, _, _], osl _ _ _ _ _ _] [_, _, _, _, _, _, _, _, _] ?_; refine JC_false rfl ?_; refine JC_skip ?_; refine JE_then ?_; refine JC_region ?_; refine JL_m ?_; refine JL_add_to rfl rfl (IntWalk.u64_in _ (by omega)) ?_; refine JL_assign rfl ?_; refine JL_nu 103 [box _ _ [_, _, _], osl _ _ _ _ _ _] [_, _, _, _, _, _, _, _, _] ?_; refine JE_block_normal ?_; refine JE_then ?_; refine JC_region ?_; refine JL_m ?_; refine JL_add_to rfl rfl (IntWalk.i64_in _ (by omega)) ?_; refine JL_assign rfl ?_; refine JL_nu 103 [box _ _ [_, _, _], osl _ _ _ _ _ _] [_, _, _, _, _, _, _, _, _] ?_; refine JE_nextS (i + 1, kk + 1) (by kernel_rfl) ?_ ?_ (by kernel_rfl) ?_
                    · exact ⟨by omega, hkn⟩
                    · first | omega | (dsimp only; omega)
                    · exact subset_app subset_nil (ssS ss0)
                · have h72 := hb
                  refine JC_skip ?_; refine JE_block_normal ?_; refine JE_then ?_; refine JC_region ?_; refine JL_m ?_; refine JL_add_to rfl rfl (IntWalk.i64_in _ (by omega)) ?_; refine JL_assign rfl ?_; refine JL_nu 103 [box _ _ [_, _, _], osl _ _ _ _ _ _] [_, _, _, _, _, _, _, _, _] ?_; refine JE_nextS (i + 1, kk) (by kernel_rfl) ?_ ?_ (by kernel_rfl) ?_
                  · exact ⟨by omega, by rw [hcs, if_neg (fun h => by rw [hfF.2 (hhF.1 h)] at h72; cases h72)]; rfl⟩
                  · first | omega | (dsimp only; omega)
                  · exact subset_app subset_nil (ssS ss0)
          · refine JL_du 103 [box _ _ [_, _, _], osl _ _ _ _ _ _] [_, _, _, _, _, _, _, _] ?_; refine JC_false rfl ?_; refine JC_exit ?_; refine JE_then_exit ?_; refine JE_nextS_exit ?_; refine JE_block_exit ?_; refine JE_then ?_; refine JC_seq ?_; obtain ⟨hce, hc0⟩ := cntF_end hlo hhi hT33 (i := i) (by omega)
            have hcl := cntF_le m hhi (Rls l33) i
            rw [hce] at hk; rw [hce] at hcl; refine JC_region ?_; refine JL_m ?_; refine JL_callF' (Asks.cons (by first | exact holds_of_mem am | (exact holds_of_box 0 rfl) | (exact holds_of_own 1 rfl)) (Asks.cons (by first | exact holds_of_mem am | (exact holds_of_box 0 rfl) | (exact holds_of_own 1 rfl)) Asks.nil)) (tcount_con hf33 hN33 (by omega)) rfl ca18 ⟨rfl, rfl⟩ ?_; rintro _ _ ⟨ad89, cap89, rfl, hk89, hm89, rfl⟩; refine JL_callF' (Asks.cons (by first | exact holds_of_mem am | (exact holds_of_own 1 rfl)) Asks.nil) (small_con (x := cntT (er a33)) (by omega)) rfl ca22 ⟨rfl, rfl⟩ ?_; rintro _ _ ⟨rfl, rfl⟩; refine JL_m ?_; refine JL_extract (v := .int .u64 ((cntT (er a33) : Nat) : Int)) rfl rfl ?_; refine JL_extract (v := .bool true) rfl rfl ?_; refine JL_assign rfl ?_; refine JL_assign rfl ?_; refine JL_du 103 [box _ _ [_, _, _], osl _ _ _ _ _ _] [_, _, _, _, _, _, _, _, _] ?_; refine JC_sr ?_; refine JL_m ?_; refine JL_m ?_; refine JL_gy ?_; refine JL_m ?_; refine JL_gy ?_; refine JL_m ?_; refine JL_gy ?_; refine JL_eql rfl rfl ?_; refine JL_split (fun h97 => ?_) (fun h97 => ?_)
            · refine JL_pick_t rfl rfl ?_; refine JL_m ?_; refine JL_gy ?_; refine JL_m ?_; refine JL_gy ?_; refine JL_gtr rfl rfl ?_; rw [decide_eq_true (p := ((kk : Nat) : Int) > 0) (by omega)]; refine JL_pick_t rfl rfl ?_; refine JL_assign rfl ?_; refine JL_du 103 [box _ _ [_, _, _], osl _ _ _ _ _ _] [_, _, _, _, _, _, _, _, _] ?_; refine JC_ret ?_; refine JE_ret (vs := [_]) [] Tryz.results6 ⟨rfl, rfl⟩ ?_ ?_
              · exact ⟨rfl, rfl⟩
              · exact all_nil
            · exact absurd (by rw [hk]) h97
    · refine JL_gy ?_; refine JL_not rfl ?_; rw [Bool.not_false]; refine JL_pick_f rfl rfl ?_; refine JL_m ?_; refine JL_gn ?_; refine JL_gn ?_; refine JL_pick_t rfl rfl ?_; refine JL_m ?_; refine JL_gn ?_; refine JL_gn ?_; refine JL_pick_t rfl rfl ?_; refine JL_du 103 [] [_, _] ?_; refine JC_true rfl ?_; refine JC_sr ?_; refine JL_callF' Asks.nil (awake_con) rfl ca8 rfl ?_; rintro _ _ ⟨rfl, rfl⟩; refine JL_assign rfl ?_; refine JL_du 103 [] [_, _] ?_; refine JC_ret ?_; refine JE_then_ret ?_; refine JE_ret (vs := [_]) [] Tryz.results6 ⟨rfl, rfl⟩ ?_ ?_
      · exact ⟨rfl, rfl⟩
      · exact all_nil
  · refine JC_region ?_; refine JL_callF' Asks.nil (awake_con) rfl ca8 rfl ?_; rintro _ _ ⟨rfl, rfl⟩; refine JL_not rfl ?_; rw [Bool.not_true]; refine JL_m ?_; refine JL_gy ?_; refine JL_m ?_; refine JL_gy ?_; refine JL_callF' (Asks.cons (holds_of_mem am) Asks.nil) (few_con hc) rfl ca9 ⟨rfl, rfl⟩ ?_; rintro _ _ ⟨rfl, rfl⟩; refine JL_split (fun h18 => ?_) (fun h18 => ?_)
    · refine JL_gy ?_; refine JL_not rfl ?_; rw [Bool.not_true]; refine JL_pick_f rfl rfl ?_; refine JL_m ?_; refine JL_gy ?_; refine JL_m ?_; refine JL_gy ?_; refine JL_lss rfl rfl ?_; refine JL_split (fun h23 => ?_) (fun h23 => ?_)
      · refine JL_pick_f rfl rfl ?_; refine JL_m ?_; refine JL_gn ?_; refine JL_gn ?_; refine JL_pick_t rfl rfl ?_; refine JL_du 103 [] [_, _] ?_; refine JC_true rfl ?_; refine JC_sr ?_; refine JL_callF' Asks.nil (awake_con) rfl ca8 rfl ?_; rintro _ _ ⟨rfl, rfl⟩; refine JL_assign rfl ?_; refine JL_du 103 [] [_, _] ?_; refine JC_ret ?_; refine JE_then_ret ?_; refine JE_ret (vs := [_]) [] Tryz.results6 ⟨rfl, rfl⟩ ?_ ?_
        · exact ⟨rfl, rfl⟩
        · exact all_nil
      · refine JL_pick_f rfl rfl ?_; refine JL_m ?_; refine JL_gy ?_; refine JL_m ?_; refine JL_gy ?_; refine JL_gtr rfl rfl ?_; refine JL_split (fun h27 => ?_) (fun h27 => ?_)
        · refine JL_pick_f rfl rfl ?_; refine JL_du 103 [] [_, _] ?_; refine JC_true rfl ?_; refine JC_sr ?_; refine JL_callF' Asks.nil (awake_con) rfl ca8 rfl ?_; rintro _ _ ⟨rfl, rfl⟩; refine JL_assign rfl ?_; refine JL_du 103 [] [_, _] ?_; refine JC_ret ?_; refine JE_then_ret ?_; refine JE_ret (vs := [_]) [] Tryz.results6 ⟨rfl, rfl⟩ ?_ ?_
          · exact ⟨rfl, rfl⟩
          · exact all_nil
        · exact absurd h27 (by omega)
    · refine JL_gy ?_; refine JL_not rfl ?_; rw [Bool.not_false]; refine JL_pick_f rfl rfl ?_; refine JL_m ?_; refine JL_gn ?_; refine JL_gn ?_; refine JL_pick_t rfl rfl ?_; refine JL_m ?_; refine JL_gn ?_; refine JL_gn ?_; refine JL_pick_t rfl rfl ?_; refine JL_du 103 [] [_, _] ?_; refine JC_true rfl ?_; refine JC_sr ?_; refine JL_callF' Asks.nil (awake_con) rfl ca8 rfl ?_; rintro _ _ ⟨rfl, rfl⟩; refine JL_assign rfl ?_; refine JL_du 103 [] [_, _] ?_; refine JC_ret ?_; refine JE_then_ret ?_; refine JE_ret (vs := [_]) [] Tryz.results6 ⟨rfl, rfl⟩ ?_ ?_
      · exact ⟨rfl, rfl⟩
      · exact all_nil

theorem pqtreeOrders_con {n : Int} (hm1 : -9223372036854775808 ≤ n) (hm2 : n ≤ 9223372036854775807) {ad : Option Addr} {c : Nat} {l : List Rw} (hc : l.length ≤ c ∧ c ≤ 9223372036854775807) : ConF Tryz.prog 6 [.int .i64 n, .slice ad l.length c] [vCells ad (rws l), vRws l] (fun v φo => v = .bool true ∧ φo = []) :=
  ConA.conF (pqtreeOrders_conA hm1 hm2 hc) fun _ _ h => h.2

end Go.Fw.K
