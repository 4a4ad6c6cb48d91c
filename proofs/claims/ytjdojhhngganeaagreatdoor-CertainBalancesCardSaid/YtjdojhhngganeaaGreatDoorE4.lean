/- Walks through functions of the given program: each meets its contract. (Printed by a program of this repo.) -/
import Derived.Test.YtjdojhhngganeaaGreatDoorE1
import Derived.Test.YtjdojhhngganeaaGreatDoorDgP
import Derived.Test.YtjdojhhngganeaaGreatDoorProg
namespace Go.Fw.E4
open Go Go.RowKit Go.Proofs Go.Nat9 Go.Fw
attribute [local irreducible] JC JL JE
theorem ca111 : callable Tryz.prog 111 = true := by kernel_rfl
theorem ca71 : callable Tryz.prog 71 = true := by kernel_rfl
theorem ca95 : callable Tryz.prog 95 = true := by kernel_rfl
theorem ca96 : callable Tryz.prog 96 = true := by kernel_rfl
theorem sl100 : slOf Tryz.prog 100 = some (57, 1, 24, [.slice none 0 0]) := by kernel_rfl
theorem sl57 : slOf Tryz.prog 57 = some (3, 1, 8, [.int .i64 0]) := by kernel_rfl
theorem ty3 : tyOf Tryz.prog 3 = some (false, 1) := by kernel_rfl
end Go.Fw.E4
namespace Go.Fw.K
open Go Go.RowKit Go.Proofs Go.Nat9 Go.Fw Go.Fw.E4
attribute [local irreducible] JC JL JE

set_option maxHeartbeats 4000000 in
theorem rat_con {ad : Option Addr} {c : Nat} {l : List Pr} {m k : Nat} (hC : Cert m l) (hln : l.length ≤ 1000000) (hk : k < (seqsL m l).length) :
    ConF Tryz.prog 111 [.int .i64 (m : Nat), .slice ad l.length c, .int .i64 (k : Nat)] [vCells ad (pcells l)]
      (SPI (nI ((seqsL m l).getD k [])) 0) := by
  have hd := hC.dg
  have hten := hC.ten
  have hsl := seqs_le (a := l) hten
  obtain ⟨N, hN⟩ : ∃ N, 2 ^ m = N := ⟨_, rfl⟩; obtain ⟨hN1, hN2⟩ := pow10 hten hN
  have hWl := waysL_len m l
  rw [hN] at hWl; refine ConF_of Tryz.func111 rfl 74 _ rfl rfl ?_; intro w0; refine JC_norm ⟨74, [], [_, _, _, _, _, _, _, _, _, _, _, _, _, _, _, _, _, _, _, _, _, _, _, _, _, _, _, _, _, _, _, _, _, _, _, _, _, _, _, _, _, _, _, _, _, _, _, _, _, _, _, _, _, _, _, _, _, _, _, _, _, _, _, _, _, _, _, _, _, _, _, _, _, _]⟩ [] [_] rfl rfl rfl ?_; refine JC_sr ?_; refine JL_assign rfl ?_; refine JL_assign rfl ?_; refine JL_du 74 [] [_] ?_; refine JC_sr ?_; refine JL_m ?_; refine JL_m ?_; refine JL_callF' (Asks.cons (holds_of_mem am) Asks.nil) (rcnt_con hln) rfl ca71 ⟨rfl, rfl, rfl⟩ ?_; rintro _ _ ⟨rfl, rfl⟩; rw [cntN_len hd hten, hC.ok]; refine JL_m ?_; refine JL_extract rfl rfl ?_; refine JL_extract rfl rfl ?_; refine JL_assign rfl ?_; refine JL_assign rfl ?_; refine JL_du 74 [] [_] ?_; refine JC_seq ?_; refine JC_sr ?_; refine JL_m ?_; refine JL_neq rfl rfl ?_; refine JL_split (fun h21 => ?_) (fun h21 => ?_)
  · exact absurd rfl h21
  · refine JL_du 74 [] [_] ?_; refine JC_false rfl ?_; refine JC_skip ?_; refine JE_then ?_; refine JC_seq ?_; refine JC_sr ?_; refine JL_m ?_; refine JL_lss rfl rfl ?_; refine JL_split (fun h24 => ?_) (fun h24 => ?_)
    · exact absurd h24 (by omega)
    · refine JL_m ?_; refine JL_gy ?_; refine JL_m ?_; refine JL_gy ?_; refine JL_m ?_; refine JL_gy ?_; refine JL_geq rfl rfl ?_; refine JL_split (fun h28 => ?_) (fun h28 => ?_)
      · exact absurd h28 (by omega)
      · refine JL_pick_f rfl rfl ?_; refine JL_du 74 [] [_] ?_; refine JC_false rfl ?_; refine JC_skip ?_; refine JE_then ?_; refine JC_sr ?_; refine JL_m ?_; refine JL_m ?_; refine JL_callF' (Asks.cons (holds_of_mem am) Asks.nil) (rways_con hd hln hten rfl) rfl ca95 ⟨rfl, rfl, rfl⟩ ?_; rintro _ _ ⟨ad32, c32, rfl, rfl⟩; refine JL_assign rfl ?_; refine JL_du 74 [] [_, _] ?_; refine JC_sr ?_; refine JL_assign rfl ?_; refine JL_du 74 [] [_, _] ?_; refine JC_sr ?_; refine JL_assign rfl ?_; refine JL_du 74 [] [_, _] ?_; refine JC_seq ?_; refine JC_block ?_; refine JC_addNil 3 1 ?_; refine JC_norm ⟨74, [], [_, _, _, _, _, _, _, _, _, _, _, _, _, _, _, _, _, _, _, _, _, _, _, _, _, _, _, _, _, _, _, _, _, _, _, _, _, _, _, _, _, _, _, _, _, _, _, _, _, _, _, _, _, _, _, _, _, _, _, _, _, _, _, _, _, _, _, _, _, _, _, _, _, _]⟩ [osl _ _ _ _ _ _] [_, _] rfl rfl rfl ?_
        refine JC_loopS ((List Nat) × (Nat) × (Option Addr) × (Nat) × (Nat)) (fun (q, kk, ad1, c1, n1) => AtI m l k q kk ∧ n1 = q.length) (fun (q, kk, ad1, c1, n1) => m - q.length) (fun u (q, kk, ad1, c1, n1) => [none, none, some (.int .i64 (kk : Nat)), none, none, none, none, none, none, none, none, some (.int .i64 (stU 0 q : Nat)), some (.slice ad1 n1 c1), some (u 13), none, none, none, none, none, none, none, none, none, none, none, none, none, none, none, none, none, none, none, some (u 33), some (u 34), some (u 35), some (u 36), some (u 37), some (u 38), some (u 39), some (u 40), some (u 41), some (u 42), some (u 43), some (u 44), some (u 45), some (u 46), some (u 47), some (u 48), some (u 49), some (u 50), some (u 51), some (u 52), some (u 53), some (u 54), some (u 55), some (u 56), some (u 57), some (u 58), some (u 59), some (u 60), some (u 61), some (u 62), some (u 63), some (u 64), some (u 65), some (u 66), some (u 67), some (u 68), some (u 69), some (u 70), some (u 71), some (u 72), none]) (fun (q, kk, ad1, c1, n1) => [some (osl ad1 n1 c1 3 1 (i64s (nI q)))]) (fun (q, kk, ad1, c1, n1) => []) ([], k, none, 0, 0) (by kernel_rfl) ?_ (by kernel_rfl) ?_ ?_
        · exact ⟨AtI.start hk, rfl⟩
        · exact subset_nil
        intro u i hC; obtain ⟨q, kk, ad1, c1, n1⟩ := i; obtain ⟨hI, hn1⟩ := hC; refine JC_nm 74 [osl _ _ _ _ _ _] [_, _] ?_
        have hst := hI.st
        rw [hN] at hst
        have hql := hI.len
        refine JC_seq ?_; refine JC_sr ?_; refine JL_m ?_; refine JL_len sl57 rfl ?_; refine JL_m ?_; refine JL_lss rfl rfl ?_; refine JL_split (fun h36 => ?_) (fun h36 => ?_)
        · refine JL_du 74 [osl _ _ _ _ _ _] [_, _] ?_; refine JC_true rfl ?_; refine JC_skip ?_; refine JE_then ?_; refine JC_block ?_; refine JC_sr ?_; refine JL_assign rfl ?_; refine JL_du 74 [osl _ _ _ _ _ _] [_, _] ?_; refine JC_block ?_
          refine JC_loopS ((Nat) × (Nat)) (fun (v, k2) => v ≤ m ∧ kk = k2 + sqP m (rdA l) (m - q.length - 1) (stU 0 q) v) (fun (v, k2) => m - v) (fun u (v, k2) => [none, none, some (.int .i64 (k2 : Nat)), none, none, none, none, none, none, none, none, some (.int .i64 (stU 0 q : Nat)), some (.slice ad1 n1 c1), some (.int .i64 (v : Nat)), none, none, none, none, none, none, none, none, none, none, none, none, none, none, none, none, none, none, none, none, none, none, none, some (u 37), some (u 38), some (u 39), some (u 40), some (u 41), some (u 42), some (u 43), some (u 44), some (u 45), some (u 46), some (u 47), some (u 48), some (u 49), some (u 50), some (u 51), some (u 52), some (u 53), some (u 54), some (u 55), some (u 56), some (u 57), some (u 58), some (u 59), some (u 60), some (u 61), some (u 62), some (u 63), some (u 64), some (u 65), some (u 66), some (u 67), some (u 68), some (u 69), some (u 70), some (u 71), some (u 72), none]) (fun (v, k2) => [none]) (fun (v, k2) => []) (0, kk) (by kernel_rfl) ?_ (by kernel_rfl) ?_ ?_
          · exact ⟨Nat.zero_le _, by rw [sqP_zero]; rfl⟩
          · exact subset_nil
          intro u i hC; obtain ⟨v, k2⟩ := i; obtain ⟨hv, hkk⟩ := hC; refine JC_nm 74 [osl _ _ _ _ _ _] [_, _] ?_
          have hklt := hI.lt
          have hkl := sq_len_le m (rdA l) (m - q.length) (stU 0 q)
          have hkp := pow_le10 hten (show m - q.length ≤ m by omega)
          refine JC_seq ?_; refine JC_sr ?_; refine JL_m ?_; refine JL_m ?_; refine JL_lss rfl rfl ?_; refine JL_split (fun h39 => ?_) (fun h39 => ?_)
          · refine JL_du 74 [osl _ _ _ _ _ _] [_, _] ?_; refine JC_true rfl ?_; refine JC_skip ?_; refine JE_then ?_; refine JC_seq ?_; refine JC_block ?_; refine JC_seq ?_; refine JC_sr ?_; refine JL_m ?_; refine JL_m ?_; refine JL_m ?_; refine JL_callF' (Asks.cons (by first | exact holds_of_mem am | (exact holds_of_own 0 rfl)) Asks.nil) (fits_con (s := stU 0 q) (q := v) hd hln hten (by omega) (by omega)) rfl ca96 ⟨rfl, rfl, rfl, rfl⟩ ?_; rintro _ _ ⟨rfl, rfl⟩; refine JL_splitV (fun h45 => ?_) (fun h45 => ?_)
            · refine JL_not rfl ?_; rw [Bool.not_true]; refine JL_du 74 [osl _ _ _ _ _ _] [_, _] ?_; refine JC_false rfl ?_; refine JC_skip ?_; refine JE_then ?_; refine JC_seq ?_; refine JC_seq ?_
              have hpb := pow_in hN (show v < m by omega)
              have hob := or_in hN (show stU 0 q < N by omega) (show v < m by omega)
              have hww := at_way hd hten hI (show v < m by omega) h45
              refine JC_region ?_; refine JL_m ?_; refine JL_m ?_; refine JL_m ?_; refine JL_m ?_; refine JL_shl_to (c := ((2 ^ v : Nat) : Int)) rfl rfl (by omega) (shl_i64 v (by omega)) ?_; refine JL_or_to (c := (((stU 0 q) ||| 2 ^ v : Nat) : Int)) rfl rfl (i64_or_nat (stU 0 q) (2 ^ v) (by omega) (by omega)) ?_; refine JL_idx (stU 0 q ||| 2 ^ v) sl57 rfl rfl rfl (by omega) (by first | exact Reads.view am | (exact Reads.own 0 rfl)) (by rw [i64s_length]; omega) ?_; refine JL_loadE ty3 rfl (by first | exact Reads.view am | (exact Reads.own 0 rfl)) (i64s_get (by omega)) ?_; rw [hww]; refine JL_lss rfl rfl ?_; refine JL_split (fun h55 => ?_) (fun h55 => ?_)
              · refine JL_du 74 [osl _ _ _ _ _ _] [_, _] ?_; refine JC_true rfl ?_; refine JC_sr ?_; refine JL_m ?_; refine JL_m ?_; refine JL_build1 sl57 rfl rfl (fun g58 => ?_); refine JL_appendI (L := (nI q)) 0 1 sl57 rfl rfl rfl rfl (by omega) (by omega) (fun ad59 cap59 hc59 => ?_); refine JL_dropAt 1 ?_; refine JL_norm _ [osl _ _ _ _ _ _] [_, _] rfl rfl rfl ?_; rw [← nI_snoc]; refine JL_assign rfl ?_; refine JL_du 74 [osl _ _ _ _ _ _] [_, _] ?_; refine JC_sr ?_; refine JL_m ?_; refine JL_m ?_; refine JL_shl_to (c := ((2 ^ v : Nat) : Int)) rfl rfl (by omega) (shl_i64 v (by omega)) ?_; refine JL_or_to (c := (((stU 0 q) ||| 2 ^ v : Nat) : Int)) rfl rfl (i64_or_nat (stU 0 q) (2 ^ v) (by omega) (by omega)) ?_; refine JL_assign rfl ?_; refine JL_du 74 [osl _ _ _ _ _ _] [_, _] ?_; refine JC_exit ?_; refine JE_then_exit ?_; refine JE_block_other rfl ?_; refine JE_then_exit ?_; refine JE_nextS_exit ?_; refine JE_block_exit ?_; refine JE_block_normal ?_; rw [← stU_snoc]; refine JE_nextS (q ++ [v], k2, ad59, cap59, n1 + 1) (by kernel_rfl) ?_ ?_ (by kernel_rfl) ?_
                · exact ⟨hI.take (by omega) (by omega) h45 hkk (by omega), by rw [List.length_append, hn1]; rfl⟩
                · dsimp only; rw [List.length_append]; simp only [List.length_cons, List.length_nil]; omega
                · exact subset_app subset_nil ss0
              · refine JL_du 74 [osl _ _ _ _ _ _] [_, _] ?_; refine JC_false rfl ?_; refine JC_skip ?_; refine JE_then ?_; refine JC_region ?_; refine JL_m ?_; refine JL_m ?_; refine JL_m ?_; refine JL_m ?_; refine JL_shl_to (c := ((2 ^ v : Nat) : Int)) rfl rfl (by omega) (shl_i64 v (by omega)) ?_; refine JL_or_to (c := (((stU 0 q) ||| 2 ^ v : Nat) : Int)) rfl rfl (i64_or_nat (stU 0 q) (2 ^ v) (by omega) (by omega)) ?_; refine JL_idx (stU 0 q ||| 2 ^ v) sl57 rfl rfl rfl (by omega) (by first | exact Reads.view am | (exact Reads.own 0 rfl)) (by rw [i64s_length]; omega) ?_; refine JL_loadE ty3 rfl (by first | exact Reads.view am | (exact Reads.own 0 rfl)) (i64s_get (by omega)) ?_; rw [hww]; refine JL_sub_to rfl rfl (IntWalk.i64_in _ (by omega)) ?_; rw [show ((k2 : Int) - (((sq m (rdA l) (m - q.length - 1) (stU 0 q ||| 2 ^ v)).length : Nat) : Int) : Int) = ((k2 - (sq m (rdA l) (m - q.length - 1) (stU 0 q ||| 2 ^ v)).length : Nat) : Int) from by omega]; refine JL_assign rfl ?_; refine JL_nu 74 [osl _ _ _ _ _ _] [_, _] ?_; refine JE_block_normal ?_; refine JE_then ?_; refine JC_region ?_; refine JL_m ?_
                refine JL_add_to rfl rfl (IntWalk.i64_in _ (by omega)) ?_; refine JL_assign rfl ?_; refine JL_nu 74 [osl _ _ _ _ _ _] [_, _] ?_; refine JE_nextS (v + 1, k2 - (sq m (rdA l) (m - q.length - 1) (stU 0 q ||| 2 ^ v)).length) (by kernel_rfl) ?_ ?_ (by kernel_rfl) ?_
                · exact ⟨by omega, by rw [sqP_succ, if_pos h45]; omega⟩
                · first | omega | (dsimp only; omega)
                · exact subset_app subset_nil ss0
            · refine JL_not rfl ?_; rw [Bool.not_false]; refine JL_du 74 [osl _ _ _ _ _ _] [_, _] ?_; refine JC_true rfl ?_; refine JC_exit ?_; refine JE_then_exit ?_; refine JE_block_exit ?_; refine JE_then ?_; refine JC_region ?_; refine JL_m ?_; refine JL_add_to rfl rfl (IntWalk.i64_in _ (by omega)) ?_; refine JL_assign rfl ?_; refine JL_nu 74 [osl _ _ _ _ _ _] [_, _] ?_; refine JE_nextS (v + 1, k2) (by kernel_rfl) ?_ ?_ (by kernel_rfl) ?_
              · exact ⟨by omega, by rw [sqP_succ, if_neg (by rw [h45]; decide), Nat.add_zero]; exact hkk⟩
              · first | omega | (dsimp only; omega)
              · exact subset_app subset_nil ss0
          · exact (at_dead hI (by omega) hkk (by omega)).elim
        · refine JL_du 74 [osl _ _ _ _ _ _] [_, _] ?_; refine JC_false rfl ?_; refine JC_exit ?_; refine JE_then_exit ?_; refine JE_nextS_exit ?_; refine JE_block_exit ?_; refine JE_then ?_; refine JC_seq ?_
          have hqe := hI.done (by omega)
          subst hn1; refine JC_ownCap 0 rfl (fun hcap => ?_)
          have hnl := nI_len q
          refine JC_region ?_; refine JL_m ?_; refine JL_assign rfl ?_; refine JL_assign rfl ?_; refine JL_du 74 [osl _ _ _ _ _ _] [_, _] ?_; refine JC_ret ?_; refine JE_give 0 rfl ?_; refine JE_norm _ [] [_, _, _] rfl rfl rfl ?_; refine JE_ret (vs := [_, _]) [vCells ad1 (i64s (nI q))] Tryz.results111 ⟨rfl, rfl, rfl⟩ ?_ ?_
          · rw [← hqe]; exact ⟨ad1, c1, by rw [hnl]; rfl, by rw [hnl]; exact hcap, rfl⟩
          · exact (all_cons am all_nil)

set_option maxHeartbeats 2000000 in
theorem all_con {ad : Option Addr} {c : Nat} {l : List Pr} {m : Nat} (hC : Cert m l) (hln : l.length ≤ 1000000) :
    ConF Tryz.prog 77 [.int .i64 (m : Nat), .slice ad l.length c] [vCells ad (pcells l)]
      (RWS ((seqsL m l).map nI)) := by
  have hd := hC.dg
  have hten := hC.ten
  have hsl := seqs_le (a := l) hten
  refine ConF_of Tryz.func77 rfl 34 _ rfl rfl ?_; intro w0; refine JC_norm ⟨34, [], [_, _, _, _, _, _, _, _, _, _, _, _, _, _, _, _, _, _, _, _, _, _, _, _, _, _, _, _, _, _, _, _, _, _]⟩ [] [_] rfl rfl rfl ?_; refine JC_sr ?_; refine JL_assign rfl ?_; refine JL_du 34 [] [_] ?_; refine JC_sr ?_; refine JL_m ?_; refine JL_m ?_; refine JL_callF' (Asks.cons (holds_of_mem am) Asks.nil) (rcnt_con hln) rfl ca71 ⟨rfl, rfl, rfl⟩ ?_; rintro _ _ ⟨rfl, rfl⟩; rw [cntN_len hd hten]; refine JL_m ?_; refine JL_extract rfl rfl ?_; refine JL_extract rfl rfl ?_; refine JL_assign rfl ?_; refine JL_assign rfl ?_; refine JL_du 34 [] [_] ?_; refine JC_sr ?_; refine JL_assign rfl ?_; refine JL_du 34 [] [_] ?_; refine JC_seq ?_; refine JC_sr ?_; refine JL_assign rfl ?_; refine JL_du 34 [] [_] ?_; refine JC_block ?_; refine JC_rwsNil ?_; refine JC_addNil 57 1 ?_; refine JC_norm ⟨34, [], [_, _, _, _, _, _, _, _, _, _, _, _, _, _, _, _, _, _, _, _, _, _, _, _, _, _, _, _, _, _, _, _, _, _]⟩ [osl _ _ _ _ _ _] [_, _] rfl rfl rfl ?_
  refine JC_loopS ((Nat) × (List Rw) × (Option Addr) × (Nat) × (Nat)) (fun (k, r, ad1, c1, n1) => k ≤ (seqsL m l).length ∧ r.map (·.L) = ((seqsL m l).take k).map nI ∧ n1 = r.length ∧ r.length = k) (fun (k, r, ad1, c1, n1) => (seqsL m l).length - k) (fun u (k, r, ad1, c1, n1) => [none, none, none, none, none, none, none, some (.slice ad1 n1 c1), some (.int .i64 (k : Nat)), some (u 9), some (u 10), none, none, none, none, none, none, some (u 17), some (u 18), some (u 19), some (u 20), some (u 21), some (u 22), some (u 23), some (u 24), some (u 25), some (u 26), some (u 27), some (u 28), some (u 29), some (u 30), some (u 31), some (u 32), none]) (fun (k, r, ad1, c1, n1) => [some (osl ad1 n1 c1 57 1 (rwcells r))]) (fun (k, r, ad1, c1, n1) => [(true, vRws r)]) (0, [], none, 0, 0) (by kernel_rfl) ?_ (by kernel_rfl) ?_ ?_
  · exact ⟨Nat.zero_le _, rfl, rfl, rfl⟩
  · exact (subset_cons am subset_nil)
  intro u i hC; obtain ⟨k, r, ad1, c1, n1⟩ := i; obtain ⟨hk, hr, hn1, hrk⟩ := hC; refine JC_nm 34 [osl _ _ _ _ _ _] [_, _, _] ?_; refine JC_seq ?_; refine JC_sr ?_; refine JL_m ?_; refine JL_m ?_; refine JL_lss rfl rfl ?_; refine JL_split (fun h19 => ?_) (fun h19 => ?_)
  · refine JL_du 34 [osl _ _ _ _ _ _] [_, _, _] ?_; refine JC_true rfl ?_; refine JC_skip ?_; refine JE_then ?_; refine JC_seq ?_; refine JC_block ?_; refine JC_sr ?_; refine JL_m ?_; refine JL_m ?_; refine JL_m ?_; refine JL_callF' (Asks.cons (by first | exact holds_of_mem am | (exact holds_of_own 0 rfl)) Asks.nil) (rat_con hC hln (by omega)) rfl ca111 ⟨rfl, rfl, rfl, rfl⟩ ?_; rintro _ _ ⟨ad26, c26, rfl, hc26, rfl⟩; refine JL_m ?_; refine JL_extract rfl rfl ?_; refine JL_extract rfl rfl ?_; refine JL_assign rfl ?_; refine JL_assign rfl ?_; refine JL_du 34 [osl _ _ _ _ _ _] [_, _, _, _] ?_; refine JC_region ?_; refine JL_rwsSnoc (f := true) (l := r) ⟨ad26, c26, nI ((seqsL m l).getD k [])⟩ am am ?_; refine JL_m ?_; refine JL_m ?_; refine JL_build1 sl100 rfl rfl (fun g31 => ?_); refine JL_norm _ [osl _ _ _ _ _ _, osl _ _ _ _ _ ([Value.slice ad26 (nI ((seqsL m l).getD k [])).length c26])] [_, _, _, _, _] rfl rfl rfl ?_; refine JL_append (news := [_]) 0 sl100 rfl (by decide) rfl rfl rfl rfl (Reads.own 1 rfl) (AllOne.cons rfl AllOne.nil) (by omega) (by omega) (fun ad32 cap32 hc32 => ?_); refine JL_dropAt 1 ?_
    refine JL_norm _ [osl _ _ _ _ _ _] [_, _, _, _, _] rfl rfl rfl ?_; rw [show rwcells r ++ [Value.slice ad26 (nI ((seqsL m l).getD k [])).length c26] = rwcells (r ++ [⟨ad26, c26, nI ((seqsL m l).getD k [])⟩]) from rwcells_snoc r ⟨ad26, c26, nI ((seqsL m l).getD k [])⟩]; refine JL_assign rfl ?_; refine JL_nu 34 [osl _ _ _ _ _ _] [_, _, _, _, _] ?_; refine JE_block_normal ?_; refine JE_then ?_; refine JC_region ?_; refine JL_m ?_; refine JL_add_to rfl rfl (IntWalk.i64_in _ (by omega)) ?_; refine JL_assign rfl ?_; refine JL_nu 34 [osl _ _ _ _ _ _] [_, _, _, _, _] ?_; refine JE_nextS (k + 1, r ++ [⟨ad26, c26, nI ((seqsL m l).getD k [])⟩], ad32, cap32, n1 + 1) (by kernel_rfl) ?_ ?_ (by kernel_rfl) ?_
    · exact ⟨by omega, rows_next hr (by omega), by rw [List.length_append, hn1]; rfl, by rw [List.length_append, hrk]; rfl⟩
    · first | omega | (dsimp only; omega)
    · exact subset_app (subset_cons am subset_nil) (ssS (ssS (ssS ss0)))
  · refine JL_du 34 [osl _ _ _ _ _ _] [_, _, _] ?_; refine JC_false rfl ?_; refine JC_exit ?_; refine JE_then_exit ?_; refine JE_nextS_exit ?_; refine JE_block_exit ?_; refine JE_then ?_; refine JC_seq ?_
    have hke : k = (seqsL m l).length := by omega
    rw [hke, List.take_length] at hr; subst hn1; refine JC_region ?_; refine JL_m ?_; refine JL_assign rfl ?_; refine JL_du 34 [osl _ _ _ _ _ _] [_, _, _] ?_; refine JC_ret ?_; refine JE_give 0 rfl ?_; refine JE_norm _ [] [_, _, _, _] rfl rfl rfl ?_; refine JE_ret (vs := [_]) [vCells ad1 (rwcells r), vRws r] Tryz.results77 ⟨rfl, rfl⟩ ?_ ?_
    · exact ⟨ad1, c1, r, rfl, hr, rfl⟩
    · exact (all_cons am (all_cons am all_nil))

end Go.Fw.K
