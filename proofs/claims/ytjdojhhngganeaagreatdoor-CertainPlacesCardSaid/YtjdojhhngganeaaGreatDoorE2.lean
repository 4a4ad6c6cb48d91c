/- Walks through functions of the given program: each meets its contract. (Printed by a program of this repo.) -/
import Derived.Test.YtjdojhhngganeaaGreatDoorE1
import Derived.Test.YtjdojhhngganeaaGreatDoorProg
namespace Go.Fw.E2
open Go Go.RowKit Go.Proofs Go.Nat9 Go.Fw
attribute [local irreducible] JC JL JE
theorem ca24 : callable Tryz.prog 24 = true := by kernel_rfl
theorem ca95 : callable Tryz.prog 95 = true := by kernel_rfl
theorem ca96 : callable Tryz.prog 96 = true := by kernel_rfl
theorem mixed : Tryz.prog.follows .mixedOrders = true := by kernel_rfl
theorem sl57 : slOf Tryz.prog 57 = some (3, 1, 8, [.int .i64 0]) := by kernel_rfl
theorem ty3 : tyOf Tryz.prog 3 = some (false, 1) := by kernel_rfl
end Go.Fw.E2
namespace Go.Fw.K
open Go Go.RowKit Go.Proofs Go.Nat9 Go.Fw Go.Fw.E2
attribute [local irreducible] JC JL JE

set_option maxHeartbeats 4000000 in
theorem rplace_con {ad : Option Addr} {c : Nat} {l : List Pr} {n i0 : Int} (hln : l.length ≤ 1000000) :
    ConF Tryz.prog 70 [.int .i64 n, .slice ad l.length c, .int .i64 i0] [vCells ad (pcells l)]
      (SPI (plcR n l i0) (plcE n l i0)) := by
  refine ConF_of Tryz.func70 rfl 95 _ rfl rfl ?_; intro w0; refine JC_norm ⟨95, [], [_, _, _, _, _, _, _, _, _, _, _, _, _, _, _, _, _, _, _, _, _, _, _, _, _, _, _, _, _, _, _, _, _, _, _, _, _, _, _, _, _, _, _, _, _, _, _, _, _, _, _, _, _, _, _, _, _, _, _, _, _, _, _, _, _, _, _, _, _, _, _, _, _, _, _, _, _, _, _, _, _, _, _, _, _, _, _, _, _, _, _, _, _, _, _]⟩ [] [_] rfl rfl rfl ?_; refine JC_sr ?_; refine JL_assign rfl ?_; refine JL_assign rfl ?_; refine JL_du 95 [] [_] ?_; refine JC_seq ?_; refine JC_sr ?_; refine JL_m ?_; refine JL_m ?_; refine JL_callF' (Asks.cons (holds_of_mem am) Asks.nil) (rchk_con hln) rfl ca24 ⟨rfl, rfl, rfl⟩ ?_; rintro _ _ ⟨rfl, rfl⟩; refine JL_assign rfl ?_; refine JL_du 95 [] [_] ?_; refine JC_sr ?_; refine JL_m ?_; refine JL_neq rfl rfl ?_; refine JL_split (fun h19 => ?_) (fun h19 => ?_)
  · refine JL_du 95 [] [_] ?_; refine JC_true rfl ?_; refine JC_sr ?_; refine JL_m ?_; refine JL_assign rfl ?_; refine JL_assign rfl ?_; refine JL_du 95 [] [_] ?_; refine JC_ret ?_; refine JE_then_ret ?_; refine JE_addView (f := true) (p := vCells none (i64s [])) (fun _ _ => nilI) ?_; refine JE_ret (vs := [_, _]) [vCells none (i64s [])] Tryz.results70 ⟨rfl, rfl, rfl⟩ ?_ ?_
    · rw [(plc_no h19).1, (plc_no h19).2]; exact ⟨none, 0, rfl, caps0, rfl⟩
    · exact (all_cons am all_nil)
  · refine JL_du 95 [] [_] ?_; refine JC_false rfl ?_; refine JC_skip ?_; refine JE_then ?_; refine JC_seq ?_; refine JC_seq ?_; obtain ⟨m, rfl, hC⟩ := cert_of (Classical.byContradiction h19)
    have hd := hC.dg
    have hten := hC.ten
    refine JC_region ?_; refine JL_m ?_; refine JL_lss rfl rfl ?_; refine JL_split (fun h22 => ?_) (fun h22 => ?_)
    · refine JL_m ?_; refine JL_gn ?_; refine JL_gn ?_; refine JL_gn ?_; refine JL_pick_t rfl rfl ?_; refine JL_du 95 [] [_] ?_; refine JC_true rfl ?_; refine JC_sr ?_; refine JL_assign rfl ?_; refine JL_assign rfl ?_; refine JL_du 95 [] [_] ?_; refine JC_ret ?_; refine JE_then_ret ?_; refine JE_addView (f := true) (p := vCells none (i64s [])) (fun _ _ => nilI) ?_; refine JE_ret (vs := [_, _]) [vCells none (i64s [])] Tryz.results70 ⟨rfl, rfl, rfl⟩ ?_ ?_
      · rw [(plc_bad hC.ok (by omega)).1, (plc_bad hC.ok (by omega)).2]; exact ⟨none, 0, rfl, caps0, rfl⟩
      · exact (all_cons am all_nil)
    · refine JL_m ?_; refine JL_gy ?_; refine JL_m ?_; refine JL_gy ?_; refine JL_m ?_; refine JL_gy ?_; refine JL_geq rfl rfl ?_; refine JL_split (fun h26 => ?_) (fun h26 => ?_)
      · refine JL_pick_f rfl rfl ?_; refine JL_du 95 [] [_] ?_; refine JC_true rfl ?_; refine JC_sr ?_; refine JL_assign rfl ?_; refine JL_assign rfl ?_; refine JL_du 95 [] [_] ?_; refine JC_ret ?_; refine JE_then_ret ?_; refine JE_addView (f := true) (p := vCells none (i64s [])) (fun _ _ => nilI) ?_; refine JE_ret (vs := [_, _]) [vCells none (i64s [])] Tryz.results70 ⟨rfl, rfl, rfl⟩ ?_ ?_
        · rw [(plc_bad hC.ok (by omega)).1, (plc_bad hC.ok (by omega)).2]; exact ⟨none, 0, rfl, caps0, rfl⟩
        · exact (all_cons am all_nil)
      · refine JL_pick_f rfl rfl ?_; refine JL_du 95 [] [_] ?_; refine JC_false rfl ?_; refine JC_skip ?_; refine JE_then ?_; refine JC_seq ?_; obtain ⟨i, rfl⟩ : ∃ i : Nat, i0 = (i : Int) := ⟨i0.toNat, by omega⟩
        have him : i < m := by omega
        obtain ⟨N, hN⟩ : ∃ N, 2 ^ m = N := ⟨_, rfl⟩; obtain ⟨hN1, hN2⟩ := pow10 hten hN
        have hWl := waysL_len m l
        rw [hN] at hWl; refine JC_region ?_; refine JL_m ?_; refine JL_m ?_; refine JL_callF' (Asks.cons (holds_of_mem am) Asks.nil) (rways_con hd hln hten rfl) rfl ca95 ⟨rfl, rfl, rfl⟩ ?_; rintro _ _ ⟨ad30, c30, rfl, rfl⟩; refine JL_assign rfl ?_; refine JL_du 95 [] [_, _] ?_; refine JC_sr ?_; refine JL_m ?_; refine JL_shl_to (c := ((N : Nat) : Int)) rfl rfl (by omega) (by rw [← hN]; exact shl_i64 m (by omega)) ?_; refine JL_make1 N N sl57 rfl rfl rfl rfl (by omega) (by omega) (by omega) (fun g33 => ?_); rw [i64s_replicate]; refine JL_assign rfl ?_; refine JL_du 95 [osl _ _ _ _ _ _] [_, _] ?_; refine JC_sr ?_; refine JL_m ?_; refine JL_idx 0 sl57 rfl rfl rfl (by omega) (Reads.own 0 rfl) (by rw [i64s_length, List.length_replicate]; omega) ?_; refine JL_storeI 0 ty3 rfl rfl rfl (by rw [List.length_replicate]; omega) ?_; refine JL_du 95 [osl _ _ _ _ _ _] [_, _] ?_; refine JC_sr ?_; refine JL_m ?_; refine JL_make1 m m sl57 rfl rfl rfl rfl (by omega) (by omega) (by omega) (fun g37 => ?_); rw [i64s_replicate]; refine JL_assign rfl ?_
        refine JL_du 95 [osl _ _ _ _ _ _, osl _ _ _ _ _ _] [_, _] ?_; refine JC_seq ?_; refine JC_sr ?_; refine JL_assign rfl ?_; refine JL_du 95 [osl _ _ _ _ _ _, osl _ _ _ _ _ _] [_, _] ?_; refine JC_block ?_
        refine JC_loopS ((Nat) × (List Int) × (List Int) × (List Int)) (fun (d, F, Z, O) => d ≤ N ∧ PlA m l d 0 F Z ∧ PlB m l i d O) (fun (d, F, Z, O) => N - d) (fun u (d, F, Z, O) => [none, none, none, none, none, none, none, none, none, none, none, none, some (.int .i64 (d : Nat)), some (u 13), some (u 14), none, none, none, none, none, none, none, none, none, none, none, none, none, none, none, none, none, none, none, none, none, none, none, some (u 38), some (u 39), some (u 40), some (u 41), some (u 42), some (u 43), some (u 44), some (u 45), some (u 46), some (u 47), some (u 48), some (u 49), some (u 50), some (u 51), some (u 52), some (u 53), some (u 54), some (u 55), some (u 56), some (u 57), some (u 58), some (u 59), some (u 60), some (u 61), some (u 62), some (u 63), some (u 64), some (u 65), some (u 66), some (u 67), some (u 68), some (u 69), some (u 70), some (u 71), some (u 72), some (u 73), some (u 74), some (u 75), some (u 76), some (u 77), some (u 78), some (u 79), some (u 80), some (u 81), some (u 82), some (u 83), some (u 84), some (u 85), some (u 86), some (u 87), some (u 88), some (u 89), some (u 90), some (u 91), some (u 92), some (u 93), none]) (fun (d, F, Z, O) => [some (osl (some ⟨g33, 0, none⟩) N N 3 1 (i64s F)), some (osl (some ⟨g37, 0, none⟩) m m 3 1 (i64s O))]) (fun (d, F, Z, O) => []) (0, (List.replicate N 0).set 0 1, List.replicate N 0, List.replicate m 0) (by kernel_rfl) ?_ (by kernel_rfl) ?_ ?_
        · exact ⟨Nat.zero_le _, PlA.start hN, PlB.start _ _ _⟩
        · exact subset_nil
        intro u i hC; obtain ⟨d, F, Z, O⟩ := i; obtain ⟨hds, hA, hB⟩ := hC; refine JC_nm 95 [osl _ _ _ _ _ _, osl _ _ _ _ _ _] [_, _] ?_
        have hlF := hA.lenF
        rw [hN] at hlF
        have hlO := hB.len
        refine JC_seq ?_; refine JC_sr ?_; refine JL_m ?_; refine JL_m ?_; refine JL_shl_to (c := ((N : Nat) : Int)) rfl rfl (by omega) (by rw [← hN]; exact shl_i64 m (by omega)) ?_; refine JL_lss rfl rfl ?_; refine JL_split (fun h41 => ?_) (fun h41 => ?_)
        · refine JL_du 95 [osl _ _ _ _ _ _, osl _ _ _ _ _ _] [_, _] ?_; refine JC_true rfl ?_; refine JC_skip ?_; refine JE_then ?_; refine JC_seq ?_; refine JC_block ?_; refine JC_sr ?_; refine JL_assign rfl ?_; refine JL_du 95 [osl _ _ _ _ _ _, osl _ _ _ _ _ _] [_, _] ?_; refine JC_seq ?_; refine JC_sr ?_; refine JL_assign rfl ?_; refine JL_du 95 [osl _ _ _ _ _ _, osl _ _ _ _ _ _] [_, _] ?_; refine JC_block ?_
          refine JC_loopS ((Nat) × (List Int) × (List Int)) (fun (j, F2, Z2) => j ≤ m ∧ PlA m l d j F2 Z2) (fun (j, F2, Z2) => m - j) (fun u (j, F2, Z2) => [none, none, none, none, none, none, none, none, none, none, none, none, none, some (.int .i64 ((bc j d : Nat) : Int)), some (.int .i64 (j : Nat)), none, none, none, none, none, none, none, none, none, none, none, none, none, none, none, none, none, none, none, none, none, none, none, none, none, none, none, none, none, some (u 44), some (u 45), some (u 46), some (u 47), some (u 48), some (u 49), some (u 50), some (u 51), some (u 52), some (u 53), some (u 54), some (u 55), some (u 56), some (u 57), some (u 58), some (u 59), some (u 60), some (u 61), some (u 62), some (u 63), some (u 64), some (u 65), some (u 66), some (u 67), some (u 68), some (u 69), some (u 70), some (u 71), none, none, none, none, none, none, none, none, none, none, none, none, none, none, none, none, none, none, none, none, none, none, none]) (fun (j, F2, Z2) => [some (osl (some ⟨g33, 0, none⟩) N N 3 1 (i64s F2)), none]) (fun (j, F2, Z2) => []) (0, F, Z) (by kernel_rfl) ?_ (by kernel_rfl) ?_ ?_
          · exact ⟨Nat.zero_le _, hA⟩
          · exact subset_nil
          intro u i hC; obtain ⟨j, F2, Z2⟩ := i; obtain ⟨hj, hA2⟩ := hC; refine JC_nm 95 [osl _ _ _ _ _ _, osl _ _ _ _ _ _] [_, _] ?_
          have hlF2 := hA2.lenF
          rw [hN] at hlF2
          have hbj := bc_le j d
          refine JC_seq ?_; refine JC_seq ?_
          have hdN : d < 2 ^ m := by rw [hN]; omega
          refine JC_region ?_; refine JL_m ?_; refine JL_m ?_; refine JL_lss rfl rfl ?_; refine JL_split (fun h46 => ?_) (fun h46 => ?_)
          · refine JL_du 95 [osl _ _ _ _ _ _, osl _ _ _ _ _ _] [_, _] ?_; refine JC_true rfl ?_; refine JC_skip ?_; refine JE_then ?_; refine JC_seq ?_; refine JC_block ?_; refine JC_sr ?_; refine JL_m ?_; refine JL_m ?_; refine JL_m ?_; refine JL_shr_to (c := ((d >>> j : Nat) : Int)) rfl rfl (by omega) (shr_nat .i64 d j (by simp only [IntKind.bits]; omega)) ?_; refine JL_and_to (c := ((d >>> j &&& 1 : Nat) : Int)) rfl rfl (i64_and_nat (d >>> j) 1 (Nat.lt_of_le_of_lt (Nat.shiftRight_le d j) (by omega)) (by decide)) ?_; refine JL_add_to rfl rfl (IntWalk.i64_in _ (by rw [bc_step]; have := bc_le (j + 1) d; omega)) ?_; rw [bc_step]; refine JL_assign rfl ?_; refine JL_du 95 [osl _ _ _ _ _ _, osl _ _ _ _ _ _] [_, _] ?_; refine JC_sr ?_; refine JL_m ?_; refine JL_m ?_; refine JL_m ?_; refine JL_callF' (Asks.cons (by first | exact holds_of_mem am | (exact holds_of_own 0 rfl) | (exact holds_of_own 1 rfl)) Asks.nil) (fits_con (s := d) (q := j) hd hln hten (by omega) (by omega)) rfl ca96 ⟨rfl, rfl, rfl, rfl⟩ ?_; rintro _ _ ⟨rfl, rfl⟩; refine JL_splitV (fun h58 => ?_) (fun h58 => ?_)
            · refine JL_du 95 [osl _ _ _ _ _ _, osl _ _ _ _ _ _] [_, _] ?_; refine JC_true rfl ?_
              have hpb := pow_in hN (show j < m by omega)
              have hob := or_in hN (show d < N by omega) (show j < m by omega)
              obtain ⟨q, hq, hqb⟩ := hA2.room hten hdN (by omega) h58; refine JC_drawT mixed 11 [spV 59 [] _, spV 60 [] _, spV 61 [] _, spV 62 [2] _, spV 63 [1, 3] _, spV 64 [0, 4] _, spV 65 [5] _, spV 66 [] _, spV 67 [] _, spV 68 [7, 8] _, spV 69 [9] _] ⟨oM, oM, oM, OblS_V (fun vals ex ψ => (by refine JL_shl_to (c := ((2 ^ j : Nat) : Int)) rfl rfl (by omega) (shl_i64 j (by omega)) ?_; exact vz rfl)), OblS_V (fun vals ex ψ => (by refine JL_or_to (c := ((d ||| 2 ^ j : Nat) : Int)) rfl rfl (i64_or_nat d (2 ^ j) (by omega) (by omega)) ?_; exact vz rfl)), OblS_V (fun vals ex ψ => (by refine JL_normQ _ (_ :: _ :: ψ) rfl rfl ?_; refine JL_idx (d ||| 2 ^ j) sl57 rfl rfl rfl (by omega) (Reads.own 0 rfl) (by rw [i64s_length]; omega) ?_; exact vz rfl)), OblS_V (fun vals ex ψ => (by refine JL_normQ _ (_ :: _ :: ψ) rfl rfl ?_; refine JL_loadE ty3 rfl (Reads.own 0 rfl) (i64s_get (by omega)) ?_; exact vz rfl)), oM, oM, OblS_V (fun vals ex ψ => (by refine JL_normQ _ (_ :: _ :: ψ) rfl rfl ?_; refine JL_idx d sl57 rfl rfl rfl (by omega) (Reads.own 0 rfl) (by rw [i64s_length]; omega) ?_; exact vz rfl)), OblS_V (fun vals ex ψ => (by refine JL_normQ _ (_ :: _ :: ψ) rfl rfl ?_; refine JL_loadE ty3 rfl (Reads.own 0 rfl) (i64s_get (by omega)) ?_; rw [hA2.cur hdN]; exact vz rfl)), trivial⟩ (by kernel_rfl) (fun vals bs => ?_)
              refine JL_normL [_, _, _] ⟨95, [(59, _), (60, _), (61, _), (62, _), (63, _), (64, _), (65, _), (66, _), (67, _), (68, _), (69, _)], _⟩ [osl _ _ _ _ _ _, osl _ _ _ _ _ _] [_, _] rfl rfl rfl rfl ?_; refine JL_add_to rfl rfl (IntWalk.i64_in _ (by rw [hq]; omega)) ?_; refine JL_idx (d ||| 2 ^ j) sl57 rfl rfl rfl (by omega) (Reads.own 0 rfl) (by rw [i64s_length]; omega) ?_; refine JL_storeI 0 ty3 rfl rfl rfl (by omega) ?_; refine JL_nu 95 [osl _ _ _ _ _ _, osl _ _ _ _ _ _] [_, _] ?_; refine JE_block_normal ?_; refine JE_then ?_; refine JC_region ?_; refine JL_m ?_; refine JL_add_to rfl rfl (IntWalk.i64_in _ (by omega)) ?_; refine JL_assign rfl ?_; refine JL_nu 95 [osl _ _ _ _ _ _, osl _ _ _ _ _ _] [_, _] ?_; refine JE_nextS (j + 1, F2.set (d ||| 2 ^ j) (F2.getD (d ||| 2 ^ j) 0 + ((fcn m l d : Nat) : Int)), Z2.set (d ||| 2 ^ j) (((bc m d : Nat) : Int) + 1)) (by kernel_rfl) ?_ ?_ (by kernel_rfl) ?_
              · exact ⟨by omega, hA2.yes hdN (by omega) h58⟩
              · first | omega | (dsimp only; omega)
              · exact subset_app subset_nil ss0
            · refine JL_du 95 [osl _ _ _ _ _ _, osl _ _ _ _ _ _] [_, _] ?_; refine JC_false rfl ?_; refine JC_skip ?_; refine JE_block_normal ?_; refine JE_then ?_; refine JC_region ?_; refine JL_m ?_; refine JL_add_to rfl rfl (IntWalk.i64_in _ (by omega)) ?_; refine JL_assign rfl ?_; refine JL_nu 95 [osl _ _ _ _ _ _, osl _ _ _ _ _ _] [_, _] ?_; refine JE_nextS (j + 1, F2, Z2) (by kernel_rfl) ?_ ?_ (by kernel_rfl) ?_
              · exact ⟨by omega, hA2.no (.inl h58)⟩
              · first | omega | (dsimp only; omega)
              · exact subset_app subset_nil ss0
          · refine JL_du 95 [osl _ _ _ _ _ _, osl _ _ _ _ _ _] [_, _] ?_; refine JC_false rfl ?_; refine JC_exit ?_; refine JE_then_exit ?_; refine JE_nextS_exit ?_; refine JE_block_exit ?_; refine JE_then ?_; refine JC_seq ?_
            have hjm : j = m := by omega
            rw [hjm]
            have hdN : d < 2 ^ m := by rw [hN]; omega
            refine JC_region ?_; refine JL_m ?_; refine JL_m ?_; refine JL_m ?_; refine JL_callF' (Asks.cons (by first | exact holds_of_mem am | (exact holds_of_own 0 rfl) | (exact holds_of_own 1 rfl)) Asks.nil) (fits_con (s := d) (q := i) hd hln hten (by omega) (by omega)) rfl ca96 ⟨rfl, rfl, rfl, rfl⟩ ?_; rintro _ _ ⟨rfl, rfl⟩; refine JL_splitV (fun h75 => ?_) (fun h75 => ?_)
            · refine JL_du 95 [osl _ _ _ _ _ _, osl _ _ _ _ _ _] [_, _] ?_; refine JC_true rfl ?_
              have hpb := pow_in hN (show i < m by omega)
              have hob := or_in hN (show d < N by omega) (show i < m by omega)
              obtain ⟨hbn, q, p, hq, hpm, hqp, hpp⟩ := hB.room hten him hdN h75
              have hww : (waysL m l).getD (d ||| 2 ^ i) 0 = ((cwL m l (d ||| 2 ^ i) : Nat) : Int) := ways_cw hd hten (by rw [hN]; exact hob)
              refine JC_drawT mixed 16 [spV 76 [] _, spV 77 [] _, spV 78 [0, 1] _, spV 79 [2] _, spV 80 [] _, spV 81 [] _, spV 82 [4, 5] _, spV 83 [6] _, spV 84 [] _, spV 85 [] _, spV 86 [] _, spV 87 [10] _, spV 88 [9, 11] _, spV 89 [8, 12] _, spV 90 [13] _, spV 91 [7, 14] _] ⟨oM, oM, OblS_V (fun vals ex ψ => (by refine JL_normQ _ (_ :: _ :: ψ) rfl rfl ?_; refine JL_idx (bc m d) sl57 rfl rfl rfl (by omega) (Reads.own 1 rfl) (by rw [i64s_length]; omega) ?_; exact vz rfl)), OblS_V (fun vals ex ψ => (by refine JL_normQ _ (_ :: _ :: ψ) rfl rfl ?_; refine JL_loadE ty3 rfl (Reads.own 1 rfl) (i64s_get (by omega)) ?_; exact vz rfl)), oM, oM, OblS_V (fun vals ex ψ => (by refine JL_normQ _ (_ :: _ :: ψ) rfl rfl ?_; refine JL_idx d sl57 rfl rfl rfl (by omega) (Reads.own 0 rfl) (by rw [i64s_length]; omega) ?_; exact vz rfl)), OblS_V (fun vals ex ψ => (by refine JL_normQ _ (_ :: _ :: ψ) rfl rfl ?_; refine JL_loadE ty3 rfl (Reads.own 0 rfl) (i64s_get (by omega)) ?_; rw [hA2.cur hdN]; exact vz rfl)), oM, oM, oM, OblS_V (fun vals ex ψ => (by refine JL_shl_to (c := ((2 ^ i : Nat) : Int)) rfl rfl (by omega) (shl_i64 i (by omega)) ?_; exact vz rfl)), OblS_V (fun vals ex ψ => (by refine JL_or_to (c := ((d ||| 2 ^ i : Nat) : Int)) rfl rfl (i64_or_nat d (2 ^ i) (by omega) (by omega)) ?_; exact vz rfl)), OblS_V (fun vals ex ψ => (by refine JL_normQ _ (_ :: _ :: ψ) rfl rfl ?_; refine JL_idx (d ||| 2 ^ i) sl57 rfl rfl rfl (by omega) (by first | exact Reads.view am | (exact Reads.own 0 rfl) | (exact Reads.own 1 rfl)) (by rw [i64s_length]; omega) ?_; exact vz rfl)), OblS_V (fun vals ex ψ => (by
                  refine JL_normQ _ (_ :: _ :: ψ) rfl rfl ?_; refine JL_loadE ty3 rfl (by first | exact Reads.view am | (exact Reads.own 0 rfl) | (exact Reads.own 1 rfl)) (i64s_get (by omega)) ?_; rw [hww]; exact vz rfl)), OblS_V (fun vals ex ψ => (by refine JL_mul_to rfl rfl (i64_of hpm (by omega) (by omega)) ?_; exact vz rfl)), trivial⟩ (by kernel_rfl) (fun vals bs => ?_)
              refine JL_normL [_, _, _] ⟨95, [(76, _), (77, _), (78, _), (79, _), (80, _), (81, _), (82, _), (83, _), (84, _), (85, _), (86, _), (87, _), (88, _), (89, _), (90, _), (91, _)], _⟩ [osl _ _ _ _ _ _, osl _ _ _ _ _ _] [_, _] rfl rfl rfl rfl ?_; refine JL_add_to rfl rfl (IntWalk.i64_in _ (by rw [hq]; omega)) ?_; refine JL_idx (bc m d) sl57 rfl rfl rfl (by omega) (Reads.own 1 rfl) (by rw [i64s_length]; omega) ?_; refine JL_storeI 1 ty3 rfl rfl rfl (by omega) ?_; refine JL_nu 95 [osl _ _ _ _ _ _, osl _ _ _ _ _ _] [_, _] ?_; refine JE_block_normal ?_; refine JE_then ?_; refine JC_region ?_; refine JL_m ?_; refine JL_add_to rfl rfl (IntWalk.i64_in _ (by omega)) ?_; refine JL_assign rfl ?_; refine JL_nu 95 [osl _ _ _ _ _ _, osl _ _ _ _ _ _] [_, _] ?_; refine JE_nextS (d + 1, F2, Z2, O.set (bc m d) (O.getD (bc m d) 0 + ((p : Nat) : Int))) (by kernel_rfl) ?_ ?_ (by kernel_rfl) ?_
              · exact ⟨by omega, hA2.turn2 hjm, hB.yes hbn hpp⟩
              · first | omega | (dsimp only; omega)
              · exact subset_app subset_nil ss0
            · refine JL_du 95 [osl _ _ _ _ _ _, osl _ _ _ _ _ _] [_, _] ?_; refine JC_false rfl ?_; refine JC_skip ?_; refine JE_block_normal ?_; refine JE_then ?_; refine JC_region ?_; refine JL_m ?_; refine JL_add_to rfl rfl (IntWalk.i64_in _ (by omega)) ?_; refine JL_assign rfl ?_; refine JL_nu 95 [osl _ _ _ _ _ _, osl _ _ _ _ _ _] [_, _] ?_; refine JE_nextS (d + 1, F2, Z2, O) (by kernel_rfl) ?_ ?_ (by kernel_rfl) ?_
              · exact ⟨by omega, hA2.turn2 hjm, hB.no (.inl h75)⟩
              · first | omega | (dsimp only; omega)
              · exact subset_app subset_nil ss0
        · refine JL_du 95 [osl _ _ _ _ _ _, osl _ _ _ _ _ _] [_, _] ?_; refine JC_false rfl ?_; refine JC_exit ?_; refine JE_then_exit ?_; refine JE_nextS_exit ?_; refine JE_block_exit ?_; refine JE_then ?_; refine JC_seq ?_
          have hdE : d = N := by omega
          rw [hdE] at hB
          have hOp := hB.done hN him
          refine JC_region ?_; refine JL_m ?_; refine JL_assign rfl ?_; refine JL_assign rfl ?_; refine JL_du 95 [osl _ _ _ _ _ _, osl _ _ _ _ _ _] [_, _] ?_; refine JC_ret ?_; refine JE_give 1 rfl ?_; refine JE_norm _ [osl _ _ _ _ _ _] [_, _, _] rfl rfl rfl ?_; refine JE_ret (vs := [_, _]) [vCells (some ⟨g37, 0, none⟩) (i64s O)] Tryz.results70 ⟨rfl, rfl, rfl⟩ ?_ ?_
          · rw [(plc_ok hC him).1, (plc_ok hC him).2, ← hOp]; exact ⟨_, m, by rw [hlO]; rfl, ⟨by omega, by omega⟩, rfl⟩
          · exact (all_cons am all_nil)

end Go.Fw.K
