/- Walks through functions of the given program: each meets its contract. (Printed by a program of this repo.) -/
import Derived.Test.YtfkfmpfohaomhaaGreatK17
import Derived.Test.YtfkfmpfohaomhaaGreatK18
import Derived.Test.YtfkfmpfohaomhaaGreatG
import Derived.Test.YtfkfmpfohaomhaaGreatCoQ
import Derived.Test.YtfkfmpfohaomhaaGreatProg
namespace Go.Fw.K25
open Go Go.RowKit Go.Proofs Go.Nat9 Go.Fw
attribute [local irreducible] JC JL JE
theorem ca23 : callable Tryz.prog 23 = true := by kernel_rfl
theorem ca24 : callable Tryz.prog 24 = true := by kernel_rfl
theorem ca25 : callable Tryz.prog 25 = true := by kernel_rfl
theorem fo64_1 : fOf Tryz.prog 64 1 = some 1 := by kernel_rfl
theorem fo64_2 : fOf Tryz.prog 64 2 = some 2 := by kernel_rfl
theorem mixed : Tryz.prog.follows .mixedOrders = true := by kernel_rfl
theorem sl61 : slOf Tryz.prog 61 = some (64, 3, 24, [.int .i64 0, .int .i64 0, .int .i64 0]) := by kernel_rfl
theorem st29 : stOf Tryz.prog 29 = some ([(0, 1), (1, 1), (2, 1)], [.bool false, .slice none 0 0, .slice none 0 0]) := by kernel_rfl
theorem ty29 : tyOf Tryz.prog 29 = some (true, 3) := by kernel_rfl
theorem ty3 : tyOf Tryz.prog 3 = some (false, 1) := by kernel_rfl
theorem ub4 : Tryz.prog.underlying 4 = some .bool := by kernel_rfl
theorem z29 : zeroOf Tryz.prog 29 = some [.bool false, .slice none 0 0, .slice none 0 0] := by kernel_rfl
end Go.Fw.K25
namespace Go.Fw.K
open Go Go.RowKit Go.Proofs Go.Nat9 Go.Fw Go.Fw.K25
attribute [local irreducible] JC JL JE

set_option maxHeartbeats 2000000 in
theorem ragree_con {ad1 ad2 : Option Addr} {c1 c2 : Nat} {a b : List Spc} (hna : a.length ≤ 1000) (hnb : b.length ≤ 1000) {side : Int} :
    ConF Tryz.prog 9 [.slice ad1 a.length c1, .slice ad2 b.length c2, .int .i64 side] [vCells ad1 (scells a), vCells ad2 (scells b)]
      (fun v φo => ∃ (ad9 : Option Addr) (cp9 : Nat) (be9 : Option Addr) (ce9 : Nat), v = .tuple #[.agg #[.bool (fneg (agO a b side)), .slice ad9 (fnum (agO a b side)).length cp9, .slice be9 (fden (agO a b side)).length ce9], .int .i64 (errG a b side)] ∧ φo = [vCells ad9 (u32s (fnum (agO a b side))), vCells be9 (u32s (fden (agO a b side)))]) := by
  have hll := prsS_len a b side
  refine ConF_of Tryz.func9 rfl 71 _ rfl rfl ?_; intro w0; refine JC_norm ⟨71, [], [_, _, _, _, _, _, _, _, _, _, _, _, _, _, _, _, _, _, _, _, _, _, _, _, _, _, _, _, _, _, _, _, _, _, _, _, _, _, _, _, _, _, _, _, _, _, _, _, _, _, _, _, _, _, _, _, _, _, _, _, _, _, _, _, _, _, _, _, _, _, _]⟩ [] [_, _] rfl rfl rfl ?_; refine JC_sr ?_; refine JL_alloc z29 (fun b6 => ?_); refine JL_assign rfl ?_; refine JL_du 71 [box _ _ [_, _, _]] [_, _] ?_; refine JC_seq ?_; refine JC_sr ?_; refine JL_m ?_; refine JL_m ?_; refine JL_m ?_; refine JL_callF' (Asks.cons (holds_of_mem am) (Asks.cons (holds_of_mem am) Asks.nil)) (rsided_con (a := a) (b := b) (side := side) (by omega) (by omega)) rfl ca23 ⟨rfl, rfl, rfl, rfl⟩ ?_; rintro _ _ ⟨rfl, rfl⟩; refine JL_assign rfl ?_; refine JL_du 71 [box _ _ [_, _, _]] [_, _] ?_; refine JC_sr ?_; refine JL_m ?_; refine JL_neq rfl rfl ?_; refine JL_split (fun h19 => ?_) (fun h19 => ?_)
  · refine JL_du 71 [box _ _ [_, _, _]] [_, _] ?_; refine JC_true rfl ?_; refine JC_sr ?_; refine JL_build (cs := [_, _, _]) [] st29 rfl rfl ?_; refine JL_m ?_; refine JL_store (vs := [_, _, _]) 0 ty29 rfl rfl rfl (AllOne.cons rfl (AllOne.cons rfl (AllOne.cons rfl AllOne.nil))) rfl (Nat.le_of_ble_eq_true rfl) ?_; refine JL_assign rfl ?_; refine JL_du 71 [box _ _ [_, _, _]] [_, _] ?_; refine JC_ret ?_; refine JE_then_ret ?_; refine JE_nilView ?_; refine JE_ret (vs := [_, _]) [vCells none (u32s []), vCells none (u32s [])] Tryz.results9 ⟨RV.cell (vs := [_, _, _]) 0 ty29 rfl rfl ⟨rfl, rfl, rfl, trivial⟩, rfl, rfl⟩ ?_ ?_
    · rw [agO_no (by rw [errG_p h19]; first | exact h19 | decide), errG_p h19]; exact ⟨none, 0, none, 0, rfl, rfl⟩
    · exact (all_cons am (all_cons am all_nil))
  · refine JL_du 71 [box _ _ [_, _, _]] [_, _] ?_; refine JC_false rfl ?_; refine JC_skip ?_; refine JE_then ?_; refine JC_sr ?_; refine JL_m ?_; refine JL_m ?_; refine JL_m ?_; refine JL_callF' (Asks.cons (holds_of_mem am) (Asks.cons (holds_of_mem am) Asks.nil)) (coup_con (a := a) (b := b) (side := side) hna hnb) rfl ca24 ⟨rfl, rfl, rfl, rfl⟩ ?_; rintro _ _ ⟨ad25, c25, rfl, hc25, rfl⟩; refine JL_assign rfl ?_; refine JL_du 71 [box _ _ [_, _, _]] [_, _, _] ?_; refine JC_seq ?_; refine JC_seq ?_
    have hpe0 : errP a b side = 0 := Classical.not_not.1 h19
    have hpl0 : (prsS a b side).length = (cpS a b side).length := by rw [← cpS_pr hpe0, List.length_map]
    refine JC_region ?_; refine JL_m ?_; refine JL_len sl61 rfl ?_; refine JL_lss rfl rfl ?_; refine JL_split (fun h28 => ?_) (fun h28 => ?_)
    · refine JL_du 71 [box _ _ [_, _, _]] [_, _, _] ?_; refine JC_true rfl ?_; refine JC_sr ?_; refine JL_build (cs := [_, _, _]) [] st29 rfl rfl ?_; refine JL_store (vs := [_, _, _]) 0 ty29 rfl rfl rfl (AllOne.cons rfl (AllOne.cons rfl (AllOne.cons rfl AllOne.nil))) rfl (Nat.le_of_ble_eq_true rfl) ?_; refine JL_assign rfl ?_; refine JL_du 71 [box _ _ [_, _, _]] [_, _, _] ?_; refine JC_ret ?_; refine JE_then_ret ?_; refine JE_nilView ?_; refine JE_ret (vs := [_, _]) [vCells none (u32s []), vCells none (u32s [])] Tryz.results9 ⟨RV.cell (vs := [_, _, _]) 0 ty29 rfl rfl ⟨rfl, rfl, rfl, trivial⟩, rfl, rfl⟩ ?_ ?_
      · rw [agO_no (by rw [errG_7 h19 (by omega)]; first | exact h24 | decide), errG_7 h19 (by omega)]; exact ⟨none, 0, none, 0, rfl, rfl⟩
      · exact (all_cons am (all_cons am all_nil))
    · refine JL_du 71 [box _ _ [_, _, _]] [_, _, _] ?_; refine JC_false rfl ?_; refine JC_skip ?_; refine JE_then ?_; refine JC_sr ?_; refine JL_assign rfl ?_; refine JL_assign rfl ?_; refine JL_du 71 [box _ _ [_, _, _]] [_, _, _] ?_; refine JC_seq ?_; refine JC_sr ?_; refine JL_assign rfl ?_; refine JL_du 71 [box _ _ [_, _, _]] [_, _, _] ?_; refine JC_block ?_
      have hpe : errP a b side = 0 := Classical.not_not.1 h19
      have hpl : (prsS a b side).length = (cpS a b side).length := by rw [← cpS_pr hpe, List.length_map]
      refine JC_loopS ((Nat) × (Int) × (Int)) (fun (i, n, m) => i ≤ (prsS a b side).length ∧ n = agS (prsS a b side) i ∧ m = alS i) (fun (i, n, m) => (prsS a b side).length - i) (fun u (i, n, m) => [none, none, none, none, none, none, none, none, none, none, some (.int .i64 n), some (.int .i64 m), some (.int .i64 (i : Nat)), some (u 13), none, none, none, none, none, none, none, none, none, none, none, none, none, none, none, none, some (u 30), some (u 31), some (u 32), some (u 33), some (u 34), some (u 35), some (u 36), some (u 37), some (u 38), some (u 39), some (u 40), some (u 41), some (u 42), some (u 43), some (u 44), some (u 45), some (u 46), some (u 47), some (u 48), some (u 49), some (u 50), some (u 51), some (u 52), some (u 53), some (u 54), some (u 55), some (u 56), some (u 57), some (u 58), some (u 59), some (u 60), some (u 61), some (u 62), some (u 63), some (u 64), some (u 65), some (u 66), some (u 67), none, none, none]) (fun (i, n, m) => [none]) (fun (i, n, m) => []) (0, 0, 0) (by kernel_rfl) ?_ (by kernel_rfl) ?_ ?_
      · exact ⟨Nat.zero_le _, rfl, rfl⟩
      · exact subset_nil
      intro u i hC; obtain ⟨i, n, m⟩ := i; obtain ⟨hi, hn, hm⟩ := hC; refine JC_nm 71 [box _ _ [_, _, _]] [_, _, _] ?_; refine JC_seq ?_; refine JC_sr ?_; refine JL_m ?_; refine JL_m ?_; refine JL_len sl61 rfl ?_; refine JL_lss rfl rfl ?_; refine JL_split (fun h33 => ?_) (fun h33 => ?_)
      · refine JL_du 71 [box _ _ [_, _, _]] [_, _, _] ?_; refine JC_true rfl ?_; refine JC_skip ?_; refine JE_then ?_; refine JC_seq ?_; refine JC_block ?_; refine JC_sr ?_; refine JL_assign rfl ?_; refine JL_du 71 [box _ _ [_, _, _]] [_, _, _] ?_; refine JC_block ?_
        have hag := agS_in (prsS a b side) i
        have hal := alS_in i
        refine JC_loopS ((Nat) × (Int) × (Int)) (fun (k, n2, m2) => k ≤ i ∧ n2 = n + agRow (prsS a b side) i k ∧ m2 = m + (k : Int)) (fun (k, n2, m2) => i - k) (fun u (k, n2, m2) => [none, none, none, none, none, none, none, none, none, none, some (.int .i64 n2), some (.int .i64 m2), none, some (.int .i64 (k : Nat)), none, none, none, none, none, none, none, none, none, none, none, none, none, none, none, none, none, none, none, none, none, none, some (u 36), some (u 37), some (u 38), some (u 39), some (u 40), some (u 41), some (u 42), some (u 43), some (u 44), some (u 45), some (u 46), some (u 47), some (u 48), some (u 49), some (u 50), some (u 51), some (u 52), some (u 53), some (u 54), some (u 55), some (u 56), some (u 57), some (u 58), some (u 59), some (u 60), some (u 61), some (u 62), some (u 63), some (u 64), some (u 65), some (u 66), some (u 67), none, none, none]) (fun (k, n2, m2) => [none]) (fun (k, n2, m2) => []) (0, n, m) (by kernel_rfl) ?_ (by kernel_rfl) ?_ ?_
        · exact ⟨Nat.zero_le _, by rw [agRow]; omega, by omega⟩
        · exact subset_nil
        intro u i hC; obtain ⟨k, n2, m2⟩ := i; obtain ⟨hk, hn2, hm2⟩ := hC; refine JC_nm 71 [box _ _ [_, _, _]] [_, _, _] ?_
        have har := agRow_in (prsS a b side) i k
        refine JC_seq ?_; refine JC_sr ?_; refine JL_m ?_; refine JL_m ?_; refine JL_lss rfl rfl ?_; refine JL_split (fun h38 => ?_) (fun h38 => ?_)
        · refine JL_du 71 [box _ _ [_, _, _]] [_, _, _] ?_; refine JC_true rfl ?_; refine JC_skip ?_; refine JE_then ?_; refine JC_seq ?_; refine JC_block ?_; refine JC_sr ?_; refine JL_m ?_; refine JL_add_to rfl rfl (IntWalk.i64_in _ (by omega)) ?_; refine JL_assign rfl ?_; refine JL_du 71 [box _ _ [_, _, _]] [_, _, _] ?_; refine JC_seq ?_; refine JC_drawT mixed 22 [spV 43 [] _, spV 44 [] _, spV 45 [0, 1] _, spV 46 [2] _, spV 47 [3] _, spV 48 [] _, spV 49 [] _, spV 50 [5, 6] _, spV 51 [7] _, spV 52 [8] _, spV 53 [4, 9] _, spV 54 [] _, spV 55 [] _, spV 56 [11, 12] _, spV 57 [13] _, spV 58 [14] _, spV 59 [] _, spV 60 [] _, spV 61 [16, 17] _, spV 62 [18] _, spV 63 [19] _, spV 64 [15, 20] _] ⟨oM, oM, OblS_V (fun vals ex ψ => (by refine JL_normQ _ (_ :: _ :: _ :: ψ) rfl rfl ?_; refine JL_indexAddr i sl61 rfl rfl rfl (by omega) (by first | exact Reads.view am) (by rw [ccl_len]; omega) ?_; exact vz rfl)), OblS_V (fun vals ex ψ => (by refine JL_normQ _ (_ :: _ :: _ :: ψ) rfl rfl ?_; refine JL_fieldAddrE fo64_1 rfl (by first | exact Reads.view am) (by rw [ccl_len]; omega) ?_; exact vz rfl)), OblS_V (fun vals ex ψ => (by refine JL_normQ _ (_ :: _ :: _ :: ψ) rfl rfl ?_; refine JL_loadE ty3 rfl (by first | exact Reads.view am) (ccl_one (by omega)).2.1 ?_; exact vz rfl)), oM, oM, OblS_V (fun vals ex ψ => (by refine JL_normQ _ (_ :: _ :: _ :: ψ) rfl rfl ?_; refine JL_indexAddr k sl61 rfl rfl rfl (by omega) (by first | exact Reads.view am) (by rw [ccl_len]; omega) ?_; exact vz rfl)), OblS_V (fun vals ex ψ => (by refine JL_normQ _ (_ :: _ :: _ :: ψ) rfl rfl ?_; refine JL_fieldAddrE fo64_1 rfl (by first | exact Reads.view am) (by rw [ccl_len]; omega) ?_; exact vz rfl)), OblS_V (fun vals ex ψ => (by
              refine JL_normQ _ (_ :: _ :: _ :: ψ) rfl rfl ?_; refine JL_loadE ty3 rfl (by first | exact Reads.view am) (ccl_one (by omega)).2.1 ?_; exact vz rfl)), OblS_V (fun vals ex ψ => (by refine JL_eql rfl rfl ?_; exact vz rfl)), oM, oM, OblS_V (fun vals ex ψ => (by refine JL_normQ _ (_ :: _ :: _ :: ψ) rfl rfl ?_; refine JL_indexAddr i sl61 rfl rfl rfl (by omega) (by first | exact Reads.view am) (by rw [ccl_len]; omega) ?_; exact vz rfl)), OblS_V (fun vals ex ψ => (by refine JL_normQ _ (_ :: _ :: _ :: ψ) rfl rfl ?_; refine JL_fieldAddrE fo64_2 rfl (by first | exact Reads.view am) (by rw [ccl_len]; omega) ?_; exact vz rfl)), OblS_V (fun vals ex ψ => (by refine JL_normQ _ (_ :: _ :: _ :: ψ) rfl rfl ?_; refine JL_loadE ty3 rfl (by first | exact Reads.view am) (ccl_one (by omega)).2.2 ?_; exact vz rfl)), oM, oM, OblS_V (fun vals ex ψ => (by refine JL_normQ _ (_ :: _ :: _ :: ψ) rfl rfl ?_; refine JL_indexAddr k sl61 rfl rfl rfl (by omega) (by first | exact Reads.view am) (by rw [ccl_len]; omega) ?_; exact vz rfl)), OblS_V (fun vals ex ψ => (by refine JL_normQ _ (_ :: _ :: _ :: ψ) rfl rfl ?_; refine JL_fieldAddrE fo64_2 rfl (by first | exact Reads.view am) (by rw [ccl_len]; omega) ?_; exact vz rfl)), OblS_V (fun vals ex ψ => (by refine JL_normQ _ (_ :: _ :: _ :: ψ) rfl rfl ?_; refine JL_loadE ty3 rfl (by first | exact Reads.view am) (ccl_one (by omega)).2.2 ?_; exact vz rfl)), OblS_V (fun vals ex ψ => (by refine JL_eql rfl rfl ?_; exact vz rfl)), trivial⟩ (by kernel_rfl) (fun vals bs => ?_)
          refine JL_normL [_] ⟨71, [(43, _), (44, _), (45, _), (46, _), (47, _), (48, _), (49, _), (50, _), (51, _), (52, _), (53, _), (54, _), (55, _), (56, _), (57, _), (58, _), (59, _), (60, _), (61, _), (62, _), (63, _), (64, _)], _⟩ [box _ _ [_, _, _]] [_, _, _] rfl rfl rfl rfl ?_; refine JL_eqlB ub4 rfl rfl ?_; refine JL_splitEqB (fun h65 => ?_) (fun h65 => ?_)
          · refine JL_du 71 [box _ _ [_, _, _]] [_, _, _] ?_; refine JC_true rfl ?_; refine JC_region ?_; refine JL_m ?_; refine JL_add_to rfl rfl (IntWalk.i64_in _ (by omega)) ?_; refine JL_assign rfl ?_; refine JL_nu 71 [box _ _ [_, _, _]] [_, _, _] ?_; refine JE_block_normal ?_; refine JE_then ?_; refine JC_region ?_; refine JL_m ?_; refine JL_add_to rfl rfl (IntWalk.i64_in _ (by omega)) ?_; refine JL_assign rfl ?_; refine JL_nu 71 [box _ _ [_, _, _]] [_, _, _] ?_; refine JE_nextS (k + 1, n2 + 1, m2 + 1) (by kernel_rfl) ?_ ?_ (by kernel_rfl) ?_
            · exact ⟨by omega, by rw [agRow_yes (by rw [← cp_pr hpe, ← cp_pr hpe]; exact h65), hn2]; omega, by omega⟩
            · first | omega | (dsimp only; omega)
            · exact subset_app subset_nil ss0
          · refine JL_du 71 [box _ _ [_, _, _]] [_, _, _] ?_; refine JC_false rfl ?_; refine JC_skip ?_; refine JE_block_normal ?_; refine JE_then ?_; refine JC_region ?_; refine JL_m ?_; refine JL_add_to rfl rfl (IntWalk.i64_in _ (by omega)) ?_; refine JL_assign rfl ?_; refine JL_nu 71 [box _ _ [_, _, _]] [_, _, _] ?_; refine JE_nextS (k + 1, n2, m2 + 1) (by kernel_rfl) ?_ ?_ (by kernel_rfl) ?_
            · exact ⟨by omega, by rw [agRow_no (by rw [← cp_pr hpe, ← cp_pr hpe]; exact h65), hn2], by omega⟩
            · first | omega | (dsimp only; omega)
            · exact subset_app subset_nil ss0
        · refine JL_du 71 [box _ _ [_, _, _]] [_, _, _] ?_; refine JC_false rfl ?_; refine JC_exit ?_; refine JE_then_exit ?_; refine JE_nextS_exit ?_; refine JE_block_exit ?_; refine JE_block_normal ?_; refine JE_then ?_; refine JC_region ?_; refine JL_m ?_; refine JL_add_to rfl rfl (IntWalk.i64_in _ (by omega)) ?_; refine JL_assign rfl ?_; refine JL_nu 71 [box _ _ [_, _, _]] [_, _, _] ?_; refine JE_nextS (i + 1, n2, m2) (by kernel_rfl) ?_ ?_ (by kernel_rfl) ?_
          · exact ⟨by omega, by rw [agS, ← hn, hn2, show k = i by omega], by rw [alS, ← hm, hm2, show k = i by omega]⟩
          · first | omega | (dsimp only; omega)
          · exact subset_app subset_nil ss0
      · refine JL_du 71 [box _ _ [_, _, _]] [_, _, _] ?_; refine JC_false rfl ?_; refine JC_exit ?_; refine JE_then_exit ?_; refine JE_nextS_exit ?_; refine JE_block_exit ?_; refine JE_then ?_; refine JC_seq ?_
        have hie : i = (prsS a b side).length := by omega
        have hag := agS_in (prsS a b side) i
        have hal := alS_in i
        have he0 := errG_0 h19 (by omega)
        refine JC_region ?_; refine JL_m ?_; refine JL_m ?_; refine JL_callF' Asks.nil (rofi_con n m (by omega) (by omega)) rfl ca25 ⟨rfl, rfl, rfl⟩ ?_; rintro _ _ ⟨ad70, cp70, be70, ce70, rfl, rfl⟩; rw [hn, hm, hie]; refine JL_store (vs := [_, _, _]) 0 ty29 rfl rfl rfl (AllOne.cons rfl (AllOne.cons rfl (AllOne.cons rfl AllOne.nil))) rfl (Nat.le_of_ble_eq_true rfl) ?_; refine JL_assign rfl ?_; refine JL_du 71 [box _ _ [_, _, _]] [_, _, _, _, _] ?_; refine JC_ret ?_; refine JE_ret (vs := [_, _]) [vCells ad70 (u32s (fnum (some (ofq (agS (prsS a b side) (prsS a b side).length) (alS (prsS a b side).length))))), vCells be70 (u32s (fden (some (ofq (agS (prsS a b side) (prsS a b side).length) (alS (prsS a b side).length)))))] Tryz.results9 ⟨RV.cell (vs := [_, _, _]) 0 ty29 rfl rfl ⟨rfl, rfl, rfl, trivial⟩, rfl, rfl⟩ ?_ ?_
        · rw [agO_yes he0, he0]; exact ⟨ad70, cp70, be70, ce70, rfl, rfl⟩
        · exact (all_cons am (all_cons am all_nil))

end Go.Fw.K
