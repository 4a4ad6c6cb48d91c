/- Walks through functions of the given program: each meets its contract. (Printed by a program of this repo.) -/
import Derived.Test.YtfkfmpfohaomhaaGreatKA
import Derived.Test.YtfkfmpfohaomhaaGreatF
import Derived.Test.YtfkfmpfohaomhaaGreatCoN
import Derived.Test.YtfkfmpfohaomhaaGreatProg
namespace Go.Fw.K24
open Go Go.RowKit Go.Proofs Go.Nat9 Go.Fw
attribute [local irreducible] JC JL JE
theorem ca19 : callable Tryz.prog 19 = true := by kernel_rfl
theorem ca22 : callable Tryz.prog 22 = true := by kernel_rfl
theorem fo57_0 : fOf Tryz.prog 57 0 = some 0 := by kernel_rfl
theorem fo57_1 : fOf Tryz.prog 57 1 = some 1 := by kernel_rfl
theorem sl46 : slOf Tryz.prog 46 = some (57, 2, 16, [.int .i64 0, .int .i64 0]) := by kernel_rfl
theorem st29 : stOf Tryz.prog 29 = some ([(0, 1), (1, 1), (2, 1)], [.bool false, .slice none 0 0, .slice none 0 0]) := by kernel_rfl
theorem ty29 : tyOf Tryz.prog 29 = some (true, 3) := by kernel_rfl
theorem ty3 : tyOf Tryz.prog 3 = some (false, 1) := by kernel_rfl
theorem ty57 : tyOf Tryz.prog 57 = some (true, 2) := by kernel_rfl
theorem ub4 : Tryz.prog.underlying 4 = some .bool := by kernel_rfl
theorem z29 : zeroOf Tryz.prog 29 = some [.bool false, .slice none 0 0, .slice none 0 0] := by kernel_rfl
theorem z57 : zeroOf Tryz.prog 57 = some [.int .i64 0, .int .i64 0] := by kernel_rfl
end Go.Fw.K24
namespace Go.Fw.K
open Go Go.RowKit Go.Proofs Go.Nat9 Go.Fw Go.Fw.K24
attribute [local irreducible] JC JL JE

set_option maxHeartbeats 2000000 in
theorem agree_con {ad1 ad2 : Option Addr} {c1 c2 : Nat} {a b : List Spc} (hna : a.length ≤ 1000) (hnb : b.length ≤ 1000) {side : Int} :
    ConF Tryz.prog 8 [.slice ad1 a.length c1, .slice ad2 b.length c2, .int .i64 side] [vCells ad1 (scells a), vCells ad2 (scells b)]
      (fun v φo => ∃ (ad9 : Option Addr) (cp9 : Nat) (be9 : Option Addr) (ce9 : Nat), v = .tuple #[.agg #[.bool (fneg (agO a b side)), .slice ad9 (fnum (agO a b side)).length cp9, .slice be9 (fden (agO a b side)).length ce9], .int .i64 (errG a b side)] ∧ φo = [vCells ad9 (u32s (fnum (agO a b side))), vCells be9 (u32s (fden (agO a b side)))]) := by
  have hll := prsS_len a b side
  refine ConF_of Tryz.func8 rfl 66 _ rfl rfl ?_; intro w0; refine JC_norm ⟨66, [], [_, _, _, _, _, _, _, _, _, _, _, _, _, _, _, _, _, _, _, _, _, _, _, _, _, _, _, _, _, _, _, _, _, _, _, _, _, _, _, _, _, _, _, _, _, _, _, _, _, _, _, _, _, _, _, _, _, _, _, _, _, _, _, _, _, _]⟩ [] [_, _] rfl rfl rfl ?_; refine JC_sr ?_; refine JL_alloc z29 (fun b6 => ?_); refine JL_assign rfl ?_; refine JL_du 66 [box _ _ [_, _, _]] [_, _] ?_; refine JC_sr ?_; refine JL_m ?_; refine JL_m ?_; refine JL_m ?_; refine JL_callF' (Asks.cons (holds_of_mem am) (Asks.cons (holds_of_mem am) Asks.nil)) (cpl_con (a := a) (b := b) (side := side) (by omega) (by omega)) rfl ca22 ⟨rfl, rfl, rfl, rfl⟩ ?_; rintro _ _ ⟨ad20, c20, rfl, hc20, rfl⟩; refine JL_m ?_; refine JL_extract rfl rfl ?_; refine JL_extract rfl rfl ?_; refine JL_assign rfl ?_; refine JL_assign rfl ?_; refine JL_du 66 [box _ _ [_, _, _]] [_, _, _] ?_; refine JC_seq ?_; refine JC_sr ?_; refine JL_m ?_; refine JL_neq rfl rfl ?_; refine JL_split (fun h24 => ?_) (fun h24 => ?_)
  · refine JL_du 66 [box _ _ [_, _, _]] [_, _, _] ?_; refine JC_true rfl ?_; refine JC_sr ?_; refine JL_build (cs := [_, _, _]) [] st29 rfl rfl ?_; refine JL_m ?_; refine JL_store (vs := [_, _, _]) 0 ty29 rfl rfl rfl (AllOne.cons rfl (AllOne.cons rfl (AllOne.cons rfl AllOne.nil))) rfl (Nat.le_of_ble_eq_true rfl) ?_; refine JL_assign rfl ?_; refine JL_du 66 [box _ _ [_, _, _]] [_, _, _] ?_; refine JC_ret ?_; refine JE_then_ret ?_; refine JE_nilView ?_; refine JE_ret (vs := [_, _]) [vCells none (u32s []), vCells none (u32s [])] Tryz.results8 ⟨RV.cell (vs := [_, _, _]) 0 ty29 rfl rfl ⟨rfl, rfl, rfl, trivial⟩, rfl, rfl⟩ ?_ ?_
    · rw [agO_no (by rw [errG_p h24]; first | exact h24 | decide), errG_p h24]; exact ⟨none, 0, none, 0, rfl, rfl⟩
    · exact (all_cons am (all_cons am all_nil))
  · refine JL_du 66 [box _ _ [_, _, _]] [_, _, _] ?_; refine JC_false rfl ?_; refine JC_skip ?_; refine JE_then ?_; refine JC_seq ?_; refine JC_sr ?_; refine JL_m ?_; refine JL_len sl46 rfl ?_; refine JL_lss rfl rfl ?_; refine JL_split (fun h29 => ?_) (fun h29 => ?_)
    · refine JL_du 66 [box _ _ [_, _, _]] [_, _, _] ?_; refine JC_true rfl ?_; refine JC_sr ?_; refine JL_build (cs := [_, _, _]) [] st29 rfl rfl ?_; refine JL_store (vs := [_, _, _]) 0 ty29 rfl rfl rfl (AllOne.cons rfl (AllOne.cons rfl (AllOne.cons rfl AllOne.nil))) rfl (Nat.le_of_ble_eq_true rfl) ?_; refine JL_assign rfl ?_; refine JL_du 66 [box _ _ [_, _, _]] [_, _, _] ?_; refine JC_ret ?_; refine JE_then_ret ?_; refine JE_nilView ?_; refine JE_ret (vs := [_, _]) [vCells none (u32s []), vCells none (u32s [])] Tryz.results8 ⟨RV.cell (vs := [_, _, _]) 0 ty29 rfl rfl ⟨rfl, rfl, rfl, trivial⟩, rfl, rfl⟩ ?_ ?_
      · rw [agO_no (by rw [errG_7 h24 (by omega)]; first | exact h24 | decide), errG_7 h24 (by omega)]; exact ⟨none, 0, none, 0, rfl, rfl⟩
      · exact (all_cons am (all_cons am all_nil))
    · refine JL_du 66 [box _ _ [_, _, _]] [_, _, _] ?_; refine JC_false rfl ?_; refine JC_skip ?_; refine JE_then ?_; refine JC_sr ?_; refine JL_assign rfl ?_; refine JL_assign rfl ?_; refine JL_du 66 [box _ _ [_, _, _]] [_, _, _] ?_; refine JC_seq ?_; refine JC_sr ?_; refine JL_m ?_; refine JL_len sl46 rfl ?_; refine JL_m ?_; refine JL_du 66 [box _ _ [_, _, _]] [_, _, _] ?_; refine JC_block ?_
      refine JC_loopS ((Nat) × (Int) × (Int)) (fun (i, n, m) => i ≤ (prsS a b side).length ∧ n = agS (prsS a b side) i ∧ m = alS i) (fun (i, n, m) => (prsS a b side).length - i) (fun u (i, n, m) => [none, none, none, none, none, none, none, none, none, none, some (.int .i64 n), some (.int .i64 m), some (u 12), some (u 13), none, some (u 15), none, none, none, none, none, none, none, none, none, none, none, none, none, none, none, none, none, some (.int .i64 (i : Nat)), some (u 34), some (u 35), some (u 36), some (u 37), some (u 38), some (u 39), some (u 40), some (u 41), some (u 42), some (u 43), some (u 44), some (u 45), some (u 46), some (u 47), some (u 48), some (u 49), some (u 50), some (u 51), some (u 52), some (u 53), some (u 54), some (u 55), some (u 56), some (u 57), some (u 58), some (u 59), some (u 60), some (u 61), some (u 62), none, none, none]) (fun (i, n, m) => [none]) (fun (i, n, m) => []) (0, 0, 0) (by kernel_rfl) ?_ (by kernel_rfl) ?_ ?_
      · exact ⟨Nat.zero_le _, rfl, rfl⟩
      · exact subset_nil
      intro u i hC; obtain ⟨i, n, m⟩ := i; obtain ⟨hi, hn, hm⟩ := hC; refine JC_nm 66 [box _ _ [_, _, _]] [_, _, _] ?_; refine JC_sr ?_; refine JL_lss rfl rfl ?_; refine JL_split (fun h34 => ?_) (fun h34 => ?_)
      · refine JL_du 66 [box _ _ [_, _, _]] [_, _, _] ?_; refine JC_seq ?_; refine JC_true rfl ?_; refine JC_skip ?_; refine JE_then ?_; refine JC_seq ?_; refine JC_block ?_; refine JC_sr ?_; refine JL_m ?_; refine JL_indexAddr i sl46 rfl rfl rfl (by omega) (by first | exact Reads.view am) (by rw [pcells_length]; omega) ?_; refine JL_loadEA (vs := [_, _]) ty57 (Nat.zero_lt_succ _) rfl (by first | exact Reads.view am) (pcells_getA (by omega)) ?_; refine JL_alloc z57 (fun b13 => ?_); refine JL_assign rfl ?_; refine JL_store (vs := [_, _]) 1 ty57 rfl rfl rfl (AllOne.cons rfl (AllOne.cons rfl AllOne.nil)) rfl (Nat.le_of_ble_eq_true rfl) ?_; refine JL_du 66 [box _ _ [_, _, _], box _ _ [_, _]] [_, _, _] ?_; refine JC_sr ?_; refine JL_m ?_; refine JL_m ?_; refine JL_sliceTo i sl46 rfl rfl (by omega) (by omega) ?_; refine JL_len sl46 rfl ?_; refine JL_m ?_; refine JL_du 66 [box _ _ [_, _, _], box _ _ [_, _]] [_, _, _] ?_; refine JC_block ?_
        have hag := agS_in (prsS a b side) i
        have hal := alS_in i
        refine JC_loopS ((Nat) × (Int) × (Int)) (fun (k, n2, m2) => k ≤ i ∧ n2 = n + agRow (prsS a b side) i k ∧ m2 = m + (k : Int)) (fun (k, n2, m2) => i - k) (fun u (k, n2, m2) => [none, none, none, none, none, none, none, none, none, none, some (.int .i64 n2), some (.int .i64 m2), none, none, none, some (u 15), none, none, none, none, none, none, none, none, none, none, none, none, none, none, none, none, none, none, none, none, none, none, none, none, none, none, some (.int .i64 (k : Nat)), some (u 43), some (u 44), some (u 45), some (u 46), some (u 47), some (u 48), some (u 49), some (u 50), some (u 51), some (u 52), some (u 53), some (u 54), some (u 55), some (u 56), some (u 57), some (u 58), some (u 59), some (u 60), some (u 61), none, none, none, none]) (fun (k, n2, m2) => [none, none]) (fun (k, n2, m2) => []) (0, n, m) (by kernel_rfl) ?_ (by kernel_rfl) ?_ ?_
        · exact ⟨Nat.zero_le _, by rw [agRow]; omega, by omega⟩
        · exact subset_nil
        intro u i hC; obtain ⟨k, n2, m2⟩ := i; obtain ⟨hk, hn2, hm2⟩ := hC; refine JC_nm 66 [box _ _ [_, _, _], box _ _ [_, _]] [_, _, _] ?_
        have har := agRow_in (prsS a b side) i k
        refine JC_sr ?_; refine JL_lss rfl rfl ?_; refine JL_split (fun h43 => ?_) (fun h43 => ?_)
        · refine JL_du 66 [box _ _ [_, _, _], box _ _ [_, _]] [_, _, _] ?_; refine JC_seq ?_; refine JC_true rfl ?_; refine JC_skip ?_; refine JE_then ?_; refine JC_seq ?_; refine JC_block ?_; refine JC_sr ?_; refine JL_indexAddr k sl46 rfl rfl rfl (by omega) (by first | exact Reads.view am) (by rw [pcells_length]; omega) ?_; refine JL_loadEA (vs := [_, _]) ty57 (Nat.zero_lt_succ _) rfl (by first | exact Reads.view am) (pcells_getA (by omega)) ?_; refine JL_alloc z57 (fun b15 => ?_); refine JL_store (vs := [_, _]) 2 ty57 rfl rfl rfl (AllOne.cons rfl (AllOne.cons rfl AllOne.nil)) rfl (Nat.le_of_ble_eq_true rfl) ?_; refine JL_du 66 [box _ _ [_, _, _], box _ _ [_, _], box _ _ [_, _]] [_, _, _] ?_; refine JC_sr ?_; refine JL_m ?_; refine JL_add_to rfl rfl (IntWalk.i64_in _ (by omega)) ?_; refine JL_assign rfl ?_; refine JL_du 66 [box _ _ [_, _, _], box _ _ [_, _], box _ _ [_, _]] [_, _, _] ?_; refine JC_sr ?_; refine JL_fieldAddr fo57_0 rfl ?_; refine JL_load 1 ty3 rfl rfl rfl ?_; refine JL_fieldAddr fo57_0 rfl ?_; refine JL_load 2 ty3 rfl rfl rfl ?_; refine JL_eql rfl rfl ?_; refine JL_fieldAddr fo57_1 rfl ?_
          refine JL_load 1 ty3 rfl rfl rfl ?_; refine JL_fieldAddr fo57_1 rfl ?_; refine JL_load 2 ty3 rfl rfl rfl ?_; refine JL_eql rfl rfl ?_; refine JL_eqlB ub4 rfl rfl ?_; refine JL_splitEqB (fun h58 => ?_) (fun h58 => ?_)
          · refine JL_du 66 [box _ _ [_, _, _], box _ _ [_, _], box _ _ [_, _]] [_, _, _] ?_; refine JC_true rfl ?_; refine JC_region ?_; refine JL_m ?_; refine JL_add_to rfl rfl (IntWalk.i64_in _ (by omega)) ?_; refine JL_assign rfl ?_; refine JL_nu 66 [box _ _ [_, _, _], box _ _ [_, _], box _ _ [_, _]] [_, _, _] ?_; refine JE_block_normal ?_; refine JE_then ?_; refine JC_region ?_; refine JL_add_to rfl rfl (IntWalk.i64_in _ (by omega)) ?_; refine JL_m ?_; refine JL_nu 66 [box _ _ [_, _, _], box _ _ [_, _], box _ _ [_, _]] [_, _, _] ?_; refine JE_dropAt 2 ?_; refine JE_norm _ [box _ _ [_, _, _], box _ _ [_, _]] [_, _, _] rfl rfl rfl ?_; refine JE_nextS (k + 1, n2 + 1, m2 + 1) (by kernel_rfl) ?_ ?_ (by kernel_rfl) ?_
            · exact ⟨by omega, by rw [agRow_yes h58, hn2]; omega, by omega⟩
            · first | omega | (dsimp only; omega)
            · exact subset_app subset_nil ss0
          · refine JL_du 66 [box _ _ [_, _, _], box _ _ [_, _], box _ _ [_, _]] [_, _, _] ?_; refine JC_false rfl ?_; refine JC_skip ?_; refine JE_block_normal ?_; refine JE_then ?_; refine JC_region ?_; refine JL_add_to rfl rfl (IntWalk.i64_in _ (by omega)) ?_; refine JL_m ?_; refine JL_nu 66 [box _ _ [_, _, _], box _ _ [_, _], box _ _ [_, _]] [_, _, _] ?_; refine JE_dropAt 2 ?_; refine JE_norm _ [box _ _ [_, _, _], box _ _ [_, _]] [_, _, _] rfl rfl rfl ?_; refine JE_nextS (k + 1, n2, m2 + 1) (by kernel_rfl) ?_ ?_ (by kernel_rfl) ?_
            · exact ⟨by omega, by rw [agRow_no h58, hn2], by omega⟩
            · first | omega | (dsimp only; omega)
            · exact subset_app subset_nil ss0
        · refine JL_du 66 [box _ _ [_, _, _], box _ _ [_, _]] [_, _, _] ?_; refine JC_seq ?_; refine JC_false rfl ?_; refine JC_exit ?_; refine JE_then_exit ?_; refine JE_nextS_exit ?_; refine JE_block_exit ?_; refine JE_block_normal ?_; refine JE_then ?_; refine JC_region ?_; refine JL_add_to rfl rfl (IntWalk.i64_in _ (by omega)) ?_; refine JL_m ?_; refine JL_nu 66 [box _ _ [_, _, _], box _ _ [_, _]] [_, _, _] ?_; refine JE_dropAt 1 ?_; refine JE_norm _ [box _ _ [_, _, _]] [_, _, _] rfl rfl rfl ?_; refine JE_nextS (i + 1, n2, m2) (by kernel_rfl) ?_ ?_ (by kernel_rfl) ?_
          · exact ⟨by omega, by rw [agS, ← hn, hn2, show k = i by omega], by rw [alS, ← hm, hm2, show k = i by omega]⟩
          · first | omega | (dsimp only; omega)
          · exact subset_app subset_nil ss0
      · refine JL_du 66 [box _ _ [_, _, _]] [_, _, _] ?_; refine JC_seq ?_; refine JC_false rfl ?_; refine JC_exit ?_; refine JE_then_exit ?_; refine JE_nextS_exit ?_; refine JE_block_exit ?_; refine JE_then ?_; refine JC_seq ?_
        have hie : i = (prsS a b side).length := by omega
        have hag := agS_in (prsS a b side) i
        have hal := alS_in i
        have he0 := errG_0 h24 (by omega)
        refine JC_region ?_; refine JL_m ?_; refine JL_m ?_; refine JL_callF' Asks.nil (fofi_con n m (by omega) (by omega)) rfl ca19 ⟨rfl, rfl, rfl⟩ ?_; rintro _ _ ⟨ad65, cp65, be65, ce65, rfl, rfl⟩; rw [hn, hm, hie]; refine JL_store (vs := [_, _, _]) 0 ty29 rfl rfl rfl (AllOne.cons rfl (AllOne.cons rfl (AllOne.cons rfl AllOne.nil))) rfl (Nat.le_of_ble_eq_true rfl) ?_; refine JL_assign rfl ?_; refine JL_du 66 [box _ _ [_, _, _]] [_, _, _, _, _] ?_; refine JC_ret ?_; refine JE_ret (vs := [_, _]) [vCells ad65 (u32s (fnum (some (ofq (agS (prsS a b side) (prsS a b side).length) (alS (prsS a b side).length))))), vCells be65 (u32s (fden (some (ofq (agS (prsS a b side) (prsS a b side).length) (alS (prsS a b side).length)))))] Tryz.results8 ⟨RV.cell (vs := [_, _, _]) 0 ty29 rfl rfl ⟨rfl, rfl, rfl, trivial⟩, rfl, rfl⟩ ?_ ?_
        · rw [agO_yes he0, he0]; exact ⟨ad65, cp65, be65, ce65, rfl, rfl⟩
        · exact (all_cons am (all_cons am all_nil))

end Go.Fw.K
