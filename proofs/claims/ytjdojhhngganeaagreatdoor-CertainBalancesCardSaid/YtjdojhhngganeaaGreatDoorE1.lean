/- Walks through functions of the given program: each meets its contract. (Printed by a program of this repo.) -/
import Derived.Test.YtjdojhhngganeaaGreatDoorD3
import Derived.Test.YtjdojhhngganeaaGreatDoorDgN
import Derived.Test.YtjdojhhngganeaaGreatDoorProg
namespace Go.Fw.E1
open Go Go.RowKit Go.Proofs Go.Nat9 Go.Fw
attribute [local irreducible] JC JL JE
theorem ca24 : callable Tryz.prog 24 = true := by kernel_rfl
theorem ca95 : callable Tryz.prog 95 = true := by kernel_rfl
theorem ca96 : callable Tryz.prog 96 = true := by kernel_rfl
theorem fo53_0 : fOf Tryz.prog 53 0 = some 0 := by kernel_rfl
theorem fo53_1 : fOf Tryz.prog 53 1 = some 1 := by kernel_rfl
theorem mixed : Tryz.prog.follows .mixedOrders = true := by kernel_rfl
theorem sl22 : slOf Tryz.prog 22 = some (53, 2, 16, [.int .i64 0, .int .i64 0]) := by kernel_rfl
theorem sl57 : slOf Tryz.prog 57 = some (3, 1, 8, [.int .i64 0]) := by kernel_rfl
theorem ty3 : tyOf Tryz.prog 3 = some (false, 1) := by kernel_rfl
end Go.Fw.E1
namespace Go.Fw.K
open Go Go.RowKit Go.Proofs Go.Nat9 Go.Fw Go.Fw.E1
attribute [local irreducible] JC JL JE

set_option maxHeartbeats 1000000 in
theorem fits_con {ad : Option Addr} {c n s q : Nat} {l : List Pr} (h : dgC n l) (hln : l.length ≤ 1000000) (hten : n ≤ 10) (hs : s < 1024) (hq : q < n) :
    ConF Tryz.prog 96 [.slice ad l.length c, .int .i64 (s : Nat), .int .i64 (q : Nat)] [vCells ad (pcells l)]
      (fun v φo => v = .bool (rdA l s q) ∧ φo = []) := by
  refine ConF_of Tryz.func96 rfl 37 _ rfl rfl ?_; intro w0; refine JC_norm ⟨37, [], [_, _, _, _, _, _, _, _, _, _, _, _, _, _, _, _, _, _, _, _, _, _, _, _, _, _, _, _, _, _, _, _, _, _, _, _, _]⟩ [] [_] rfl rfl rfl ?_; refine JC_sr ?_; refine JL_assign rfl ?_; refine JL_du 37 [] [_] ?_; refine JC_seq ?_; refine JC_sr ?_; refine JL_m ?_; refine JL_m ?_; refine JL_shr_to (c := ((s >>> q : Nat) : Int)) rfl rfl (by omega) (shr_nat .i64 s q (by simp only [IntKind.bits]; omega)) ?_; refine JL_and_to (c := ((s >>> q &&& 1 : Nat) : Int)) rfl rfl (i64_and_nat (s >>> q) 1 (Nat.lt_of_le_of_lt (Nat.shiftRight_le s q) (by omega)) (by decide)) ?_; refine JL_neq rfl rfl ?_; refine JL_split (fun h12 => ?_) (fun h12 => ?_)
  · refine JL_du 37 [] [_] ?_; refine JC_true rfl ?_; refine JC_sr ?_; refine JL_assign rfl ?_; refine JL_du 37 [] [_] ?_; refine JC_ret ?_; refine JE_then_ret ?_; refine JE_ret (vs := [_]) [] Tryz.results96 ⟨rfl, rfl⟩ ?_ ?_
    · rw [rdA_no1 h12]; exact ⟨rfl, rfl⟩
    · exact all_nil
  · refine JL_du 37 [] [_] ?_; refine JC_false rfl ?_; refine JC_skip ?_; refine JE_then ?_; refine JC_seq ?_; refine JC_sr ?_; refine JL_assign rfl ?_; refine JL_du 37 [] [_] ?_; refine JC_block ?_; refine JC_loopS ((Nat)) (fun (i : Nat) => i ≤ l.length ∧ ∀ j, j < i → (l.getD j dP).2 = (q : Int) → s.testBit (l.getD j dP).1.toNat = true) (fun (i : Nat) => l.length - i) (fun u (i : Nat) => [none, none, none, none, none, none, some (u 6), some (.int .i64 (i : Nat)), none, none, none, none, none, some (u 13), some (u 14), some (u 15), some (u 16), some (u 17), some (u 18), some (u 19), some (u 20), some (u 21), some (u 22), some (u 23), some (u 24), some (u 25), some (u 26), some (u 27), some (u 28), some (u 29), some (u 30), some (u 31), some (u 32), some (u 33), some (u 34), some (u 35), some (u 36)]) (fun (i : Nat) => []) (fun (i : Nat) => []) (0) (by kernel_rfl) ?_ (by kernel_rfl) ?_ ?_
    · exact ⟨Nat.zero_le _, fun j hj => absurd hj (Nat.not_lt_zero j)⟩
    · exact subset_nil
    intro u i hC; obtain ⟨hi, hj⟩ := hC; refine JC_nm 37 [] [_] ?_; refine JC_seq ?_; refine JC_sr ?_; refine JL_m ?_; refine JL_m ?_; refine JL_len sl22 rfl ?_; refine JL_lss rfl rfl ?_; refine JL_split (fun h16 => ?_) (fun h16 => ?_)
    · refine JL_du 37 [] [_] ?_; refine JC_true rfl ?_; refine JC_skip ?_; refine JE_then ?_; refine JC_seq ?_; refine JC_block ?_; refine JC_seq ?_; obtain ⟨f, t, he, hf, ht, _⟩ := h.at (i := i) (by omega); refine JC_region ?_; refine JL_m ?_; refine JL_m ?_; refine JL_indexAddr i sl22 rfl rfl rfl (by omega) (by first | exact Reads.view am) (by rw [pcells_length]; omega) ?_; refine JL_fieldAddrE fo53_1 rfl (by first | exact Reads.view am) (by rw [pcells_length]; omega) ?_; refine JL_loadE ty3 rfl (by first | exact Reads.view am) (pcells_getE he (by omega) 1 _ rfl) ?_; refine JL_m ?_; refine JL_eql rfl rfl ?_; refine JL_split (fun h25 => ?_) (fun h25 => ?_)
      · refine JL_m ?_; refine JL_gy ?_; refine JL_m ?_; refine JL_gy ?_; refine JL_m ?_; refine JL_gy ?_; refine JL_m ?_; refine JL_gy ?_; refine JL_indexAddr i sl22 rfl rfl rfl (by omega) (by first | exact Reads.view am) (by rw [pcells_length]; omega) ?_; refine JL_gy ?_; refine JL_fieldAddrE fo53_0 rfl (by first | exact Reads.view am) (by rw [pcells_length]; omega) ?_; refine JL_gy ?_; refine JL_loadE ty3 rfl (by first | exact Reads.view am) (pcells_getE he (by omega) 0 _ rfl) ?_; refine JL_gy ?_; refine JL_shr_to (c := ((s >>> f : Nat) : Int)) rfl rfl (by omega) (shr_nat .i64 s f (by simp only [IntKind.bits]; omega)) ?_; refine JL_gy ?_; refine JL_and_to (c := ((s >>> f &&& 1 : Nat) : Int)) rfl rfl (i64_and_nat (s >>> f) 1 (Nat.lt_of_le_of_lt (Nat.shiftRight_le s f) (by omega)) (by decide)) ?_; refine JL_gy ?_; refine JL_eql rfl rfl ?_; refine JL_split (fun h35 => ?_) (fun h35 => ?_)
        · refine JL_pick_t rfl rfl ?_; refine JL_du 37 [] [_] ?_; refine JC_true rfl ?_; refine JC_sr ?_; refine JL_assign rfl ?_; refine JL_du 37 [] [_] ?_; refine JC_ret ?_; refine JE_block_ret ?_; refine JE_then_ret ?_; refine JE_nextS_ret ?_; refine JE_block_ret ?_; refine JE_then_ret ?_; refine JE_ret (vs := [_]) [] Tryz.results96 ⟨rfl, rfl⟩ ?_ ?_
          · rw [rdA_no2 (by omega) he h25 h35]; exact ⟨rfl, rfl⟩
          · exact all_nil
        · refine JL_pick_t rfl rfl ?_; refine JL_du 37 [] [_] ?_; refine JC_false rfl ?_; refine JC_skip ?_; refine JE_block_normal ?_; refine JE_then ?_; refine JC_region ?_; refine JL_m ?_; refine JL_add_to rfl rfl (IntWalk.i64_in _ (by omega)) ?_; refine JL_assign rfl ?_; refine JL_nu 37 [] [_] ?_; refine JE_nextS (i + 1) (by kernel_rfl) ?_ ?_ (by kernel_rfl) ?_
          · exact ⟨by omega, rdA_next hj (rdA_step he (by first | exact .inl h25 | exact .inr h35))⟩
          · first | omega | (dsimp only; omega)
          · exact subset_app subset_nil ss0
      · refine JL_m ?_; refine JL_gn ?_; refine JL_gn ?_; refine JL_gn ?_; refine JL_gn ?_; refine JL_gn ?_; refine JL_gn ?_; refine JL_gn ?_; refine JL_gn ?_; refine JL_gn ?_; refine JL_pick_f rfl rfl ?_; refine JL_du 37 [] [_] ?_; refine JC_false rfl ?_; refine JC_skip ?_; refine JE_block_normal ?_; refine JE_then ?_; refine JC_region ?_; refine JL_m ?_; refine JL_add_to rfl rfl (IntWalk.i64_in _ (by omega)) ?_; refine JL_assign rfl ?_; refine JL_nu 37 [] [_] ?_; refine JE_nextS (i + 1) (by kernel_rfl) ?_ ?_ (by kernel_rfl) ?_
        · exact ⟨by omega, rdA_next hj (rdA_step he (by first | exact .inl h25 | exact .inr h35))⟩
        · first | omega | (dsimp only; omega)
        · exact subset_app subset_nil ss0
    · refine JL_du 37 [] [_] ?_; refine JC_false rfl ?_; refine JC_exit ?_; refine JE_then_exit ?_; refine JE_nextS_exit ?_; refine JE_block_exit ?_; refine JE_then ?_; refine JC_sr ?_; refine JL_assign rfl ?_; refine JL_du 37 [] [_] ?_; refine JC_ret ?_; refine JE_ret (vs := [_]) [] Tryz.results96 ⟨rfl, rfl⟩ ?_ ?_
      · rw [rdA_yes h12 (fun j h => hj j (by omega))]; exact ⟨rfl, rfl⟩
      · exact all_nil

set_option maxHeartbeats 4000000 in
theorem rways_con {ad : Option Addr} {c : Nat} {l : List Pr} {n N : Nat} (h : dgC n l) (hln : l.length ≤ 1000000) (hn : n ≤ 10) (hN : 2 ^ n = N) :
    ConF Tryz.prog 95 [.int .i64 (n : Nat), .slice ad l.length c] [vCells ad (pcells l)]
      (SETI (waysL n l)) := by
  obtain ⟨hN1, hN2⟩ := pow10 hn hN; refine ConF_of Tryz.func95 rfl 46 _ rfl rfl ?_; intro w0; refine JC_norm ⟨46, [], [_, _, _, _, _, _, _, _, _, _, _, _, _, _, _, _, _, _, _, _, _, _, _, _, _, _, _, _, _, _, _, _, _, _, _, _, _, _, _, _, _, _, _, _, _, _]⟩ [] [_] rfl rfl rfl ?_; refine JC_sr ?_; refine JL_assign rfl ?_; refine JL_du 46 [] [_] ?_; refine JC_sr ?_; refine JL_m ?_; refine JL_shl_to (c := ((N : Nat) : Int)) rfl rfl (by omega) (by rw [← hN]; exact shl_i64 n (by omega)) ?_; refine JL_make1 N N sl57 rfl rfl rfl rfl (by omega) (by omega) (by omega) (fun g10 => ?_); rw [i64s_replicate]; refine JL_assign rfl ?_; refine JL_du 46 [osl _ _ _ _ _ _] [_] ?_; refine JC_sr ?_; refine JL_m ?_; refine JL_m ?_; refine JL_shl_to (c := ((N : Nat) : Int)) rfl rfl (by omega) (by rw [← hN]; exact shl_i64 n (by omega)) ?_; refine JL_sub_to rfl rfl (IntWalk.i64_in _ (by omega)) ?_; rw [show (((N : Nat) : Int) - 1 : Int) = ((N - 1 : Nat) : Int) from by omega]; refine JL_idx (N - 1) sl57 rfl rfl rfl (by omega) (Reads.own 0 rfl) (by rw [i64s_length, List.length_replicate]; omega) ?_
  refine JL_storeI 0 ty3 rfl rfl rfl (by rw [List.length_replicate]; omega) ?_; refine JL_du 46 [osl _ _ _ _ _ _] [_] ?_; refine JC_seq ?_; refine JC_sr ?_; refine JL_m ?_; refine JL_shl_to (c := ((N : Nat) : Int)) rfl rfl (by omega) (by rw [← hN]; exact shl_i64 n (by omega)) ?_; refine JL_sub_to rfl rfl (IntWalk.i64_in _ (by omega)) ?_; rw [show (((N : Nat) : Int) - 2 : Int) = ((N : Nat) : Int) - 2 - ((0 : Nat) : Int) from by omega]; refine JL_assign rfl ?_; refine JL_du 46 [osl _ _ _ _ _ _] [_] ?_; refine JC_block ?_
  refine JC_loopS ((Nat) × (List Int)) (fun (k, W) => k ≤ N - 1 ∧ wayS (needL n l) n N k = W) (fun (k, W) => N - k) (fun u (k, W) => [none, none, none, none, none, none, some (.int .i64 (((N : Nat) : Int) - 2 - ((k : Nat) : Int))), some (u 7), none, none, none, none, none, none, none, none, none, none, none, some (u 19), some (u 20), some (u 21), some (u 22), some (u 23), some (u 24), some (u 25), some (u 26), some (u 27), some (u 28), some (u 29), some (u 30), some (u 31), some (u 32), some (u 33), some (u 34), some (u 35), some (u 36), some (u 37), some (u 38), some (u 39), some (u 40), some (u 41), some (u 42), some (u 43), some (u 44), none]) (fun (k, W) => [some (osl (some ⟨g10, 0, none⟩) N N 3 1 (i64s W))]) (fun (k, W) => []) (0, (List.replicate N 0).set (N - 1) 1) (by kernel_rfl) ?_ (by kernel_rfl) ?_ ?_
  · exact ⟨Nat.zero_le _, rfl⟩
  · exact subset_nil
  intro u i hC; obtain ⟨k, W⟩ := i; obtain ⟨hk, hW⟩ := hC; refine JC_nm 46 [osl _ _ _ _ _ _] [_] ?_
  have hWl : W.length = N := by rw [← hW, wayS_len]
  refine JC_seq ?_; refine JC_sr ?_; refine JL_m ?_; refine JL_geq rfl rfl ?_; refine JL_split (fun h20 => ?_) (fun h20 => ?_)
  · refine JL_du 46 [osl _ _ _ _ _ _] [_] ?_; refine JC_true rfl ?_; refine JC_skip ?_; refine JE_then ?_; refine JC_seq ?_; refine JC_block ?_; refine JC_seq ?_; obtain ⟨s, hs⟩ : ∃ s : Nat, ((N : Nat) : Int) - 2 - ((k : Nat) : Int) = (s : Int) := ⟨N - 2 - k, by omega⟩; rw [hs]
    have hsN : s < N := by omega
    refine JC_region ?_; refine JL_assign rfl ?_; refine JL_du 46 [osl _ _ _ _ _ _] [_] ?_; refine JC_block ?_; refine JC_loopS ((Nat) × (List Int)) (fun (b, X) => b ≤ n ∧ wayV (needL n l) s W b = X) (fun (b, X) => n - b) (fun u (b, X) => [none, none, none, none, none, none, none, some (.int .i64 (b : Nat)), none, none, none, none, none, none, none, none, none, none, none, none, none, none, none, some (u 23), some (u 24), some (u 25), some (u 26), some (u 27), some (u 28), some (u 29), some (u 30), some (u 31), some (u 32), some (u 33), some (u 34), some (u 35), some (u 36), some (u 37), some (u 38), some (u 39), some (u 40), some (u 41), some (u 42), some (u 43), some (u 44), none]) (fun (b, X) => [some (osl (some ⟨g10, 0, none⟩) N N 3 1 (i64s X))]) (fun (b, X) => []) (0, W) (by kernel_rfl) ?_ (by kernel_rfl) ?_ ?_
    · exact ⟨Nat.zero_le _, rfl⟩
    · exact subset_nil
    intro u i hC; obtain ⟨b, X⟩ := i; obtain ⟨hb, hX⟩ := hC; refine JC_nm 46 [osl _ _ _ _ _ _] [_] ?_
    have hXl : X.length = N := by rw [← hX, wayV_len, hWl]
    refine JC_seq ?_; refine JC_sr ?_; refine JL_m ?_; refine JL_m ?_; refine JL_lss rfl rfl ?_; refine JL_split (fun h25 => ?_) (fun h25 => ?_)
    · refine JL_du 46 [osl _ _ _ _ _ _] [_] ?_; refine JC_true rfl ?_; refine JC_skip ?_; refine JE_then ?_; refine JC_seq ?_; refine JC_block ?_; refine JC_sr ?_; refine JL_m ?_; refine JL_m ?_; refine JL_m ?_; refine JL_callF' (Asks.cons (by first | exact holds_of_mem am | (exact holds_of_own 0 rfl)) Asks.nil) (fits_con (s := s) (q := b) h hln hn (by omega) (by omega)) rfl ca96 ⟨rfl, rfl, rfl, rfl⟩ ?_; rintro _ _ ⟨rfl, rfl⟩; refine JL_splitV (fun h31 => ?_) (fun h31 => ?_)
      · refine JL_du 46 [osl _ _ _ _ _ _] [_] ?_; refine JC_true rfl ?_
        have hpb := pow_in hN (show b < n by omega)
        have hob := (or_in hN (show s < N by omega) (show b < n by omega))
        refine JC_drawT mixed 11 [spV 32 [] _, spV 33 [] _, spV 34 [0, 1] _, spV 35 [2] _, spV 36 [] _, spV 37 [] _, spV 38 [] _, spV 39 [6] _, spV 40 [5, 7] _, spV 41 [4, 8] _, spV 42 [9] _] ⟨oM, oM, OblS_V (fun vals ex ψ => (by refine JL_normQ _ (_ :: ψ) rfl rfl ?_; refine JL_idx s sl57 rfl rfl rfl (by omega) (Reads.own 0 rfl) (by rw [i64s_length]; omega) ?_; exact vz rfl)), OblS_V (fun vals ex ψ => (by refine JL_normQ _ (_ :: ψ) rfl rfl ?_; refine JL_loadE ty3 rfl (Reads.own 0 rfl) (i64s_get (by omega)) ?_; exact vz rfl)), oM, oM, oM, OblS_V (fun vals ex ψ => (by refine JL_shl_to (c := ((2 ^ b : Nat) : Int)) rfl rfl (by omega) (shl_i64 b (by omega)) ?_; exact vz rfl)), OblS_V (fun vals ex ψ => (by refine JL_or_to (c := ((s ||| 2 ^ b : Nat) : Int)) rfl rfl (i64_or_nat s (2 ^ b) (by omega) (by omega)) ?_; exact vz rfl)), OblS_V (fun vals ex ψ => (by refine JL_normQ _ (_ :: ψ) rfl rfl ?_; refine JL_idx (s ||| 2 ^ b) sl57 rfl rfl rfl (by omega) (Reads.own 0 rfl) (by rw [i64s_length]; omega) ?_; exact vz rfl)), OblS_V (fun vals ex ψ => (by refine JL_normQ _ (_ :: ψ) rfl rfl ?_; refine JL_loadE ty3 rfl (Reads.own 0 rfl) (i64s_get (by omega)) ?_; exact vz rfl)), trivial⟩ (by kernel_rfl) (fun vals bs => ?_)
        refine JL_normL [_, _, _] ⟨46, [(32, _), (33, _), (34, _), (35, _), (36, _), (37, _), (38, _), (39, _), (40, _), (41, _), (42, _)], _⟩ [osl _ _ _ _ _ _] [_] rfl rfl rfl rfl ?_; refine JL_add_to rfl rfl rfl ?_; refine JL_idx s sl57 rfl rfl rfl (by omega) (Reads.own 0 rfl) (by rw [i64s_length]; omega) ?_; refine JL_storeI 0 ty3 rfl rfl rfl (by omega) ?_; refine JL_nu 46 [osl _ _ _ _ _ _] [_] ?_; refine JE_block_normal ?_; refine JE_then ?_; refine JC_region ?_; refine JL_m ?_; refine JL_add_to rfl rfl (IntWalk.i64_in _ (by omega)) ?_; refine JL_assign rfl ?_; refine JL_nu 46 [osl _ _ _ _ _ _] [_] ?_; refine JE_nextS (b + 1, X.set s (w64 (X.getD s 0 + X.getD (s ||| 2 ^ b) 0))) (by kernel_rfl) ?_ ?_ (by kernel_rfl) ?_
        · exact ⟨by omega, wayV_y h (by omega) hX h31⟩
        · first | omega | (dsimp only; omega)
        · exact subset_app subset_nil ss0
      · refine JL_du 46 [osl _ _ _ _ _ _] [_] ?_; refine JC_false rfl ?_; refine JC_skip ?_; refine JE_block_normal ?_; refine JE_then ?_; refine JC_region ?_; refine JL_m ?_; refine JL_add_to rfl rfl (IntWalk.i64_in _ (by omega)) ?_; refine JL_assign rfl ?_; refine JL_nu 46 [osl _ _ _ _ _ _] [_] ?_; refine JE_nextS (b + 1, X) (by kernel_rfl) ?_ ?_ (by kernel_rfl) ?_
        · exact ⟨by omega, wayV_n h (by omega) hX h31⟩
        · first | omega | (dsimp only; omega)
        · exact subset_app subset_nil ss0
    · refine JL_du 46 [osl _ _ _ _ _ _] [_] ?_; refine JC_false rfl ?_; refine JC_exit ?_; refine JE_then_exit ?_; refine JE_nextS_exit ?_; refine JE_block_exit ?_; refine JE_block_normal ?_; refine JE_then ?_; refine JC_region ?_; refine JL_m ?_; refine JL_sub_to rfl rfl (IntWalk.i64_in _ (by omega)) ?_; rw [show ((s : Int) - 1 : Int) = ((N : Nat) : Int) - 2 - ((k + 1 : Nat) : Int) from by omega]; refine JL_assign rfl ?_; refine JL_nu 46 [osl _ _ _ _ _ _] [_] ?_; refine JE_nextS (k + 1, X) (by kernel_rfl) ?_ ?_ (by kernel_rfl) ?_
      · exact ⟨by omega, by rw [wayS, hW, ← hX, show N - 2 - k = s from by omega, show b = n from by omega]⟩
      · first | omega | (dsimp only; omega)
      · exact subset_app subset_nil ss0
  · refine JL_du 46 [osl _ _ _ _ _ _] [_] ?_; refine JC_false rfl ?_; refine JC_exit ?_; refine JE_then_exit ?_; refine JE_nextS_exit ?_; refine JE_block_exit ?_; refine JE_then ?_; refine JC_sr ?_; refine JL_m ?_; refine JL_assign rfl ?_; refine JL_du 46 [osl _ _ _ _ _ _] [_] ?_; refine JC_ret ?_
    have hke : k = N - 1 := by omega
    have hwe : waysL n l = W := ways_end hN rfl hW hke
    refine JE_give 0 rfl ?_; refine JE_norm _ [] [_, _] rfl rfl rfl ?_; refine JE_ret (vs := [_]) [vCells (some ⟨g10, 0, none⟩) (i64s W)] Tryz.results95 ⟨rfl, rfl⟩ ?_ ?_
    · rw [hwe]; exact ⟨_, N, by rw [hWl]; rfl, rfl⟩
    · exact (all_cons am all_nil)

theorem rcnt_con {ad : Option Addr} {c : Nat} {l : List Pr} {n : Int} (hln : l.length ≤ 1000000) :
    ConF Tryz.prog 71 [.int .i64 n, .slice ad l.length c] [vCells ad (pcells l)]
      (fun v φo => v = .tuple #[.int .i64 (cntN n l), .int .i64 (seqE n l)] ∧ φo = []) := by
  refine ConF_of Tryz.func71 rfl 18 _ rfl rfl ?_; intro w0; refine JC_norm ⟨18, [], [_, _, _, _, _, _, _, _, _, _, _, _, _, _, _, _, _, _]⟩ [] [_] rfl rfl rfl ?_; refine JC_sr ?_; refine JL_assign rfl ?_; refine JL_assign rfl ?_; refine JL_du 18 [] [_] ?_; refine JC_seq ?_; refine JC_sr ?_; refine JL_m ?_; refine JL_m ?_; refine JL_callF' (Asks.cons (holds_of_mem am) Asks.nil) (rchk_con hln) rfl ca24 ⟨rfl, rfl, rfl⟩ ?_; rintro _ _ ⟨rfl, rfl⟩; refine JL_assign rfl ?_; refine JL_du 18 [] [_] ?_; refine JC_sr ?_; refine JL_m ?_; refine JL_neq rfl rfl ?_; refine JL_split (fun h11 => ?_) (fun h11 => ?_)
  · refine JL_du 18 [] [_] ?_; refine JC_true rfl ?_; refine JC_sr ?_; refine JL_m ?_; refine JL_assign rfl ?_; refine JL_assign rfl ?_; refine JL_du 18 [] [_] ?_; refine JC_ret ?_; refine JE_then_ret ?_; refine JE_ret (vs := [_, _]) [] Tryz.results71 ⟨rfl, rfl, rfl⟩ ?_ ?_
    · rw [cntN_no h11]; exact ⟨rfl, rfl⟩
    · exact all_nil
  · refine JL_du 18 [] [_] ?_; refine JC_false rfl ?_; refine JC_skip ?_; refine JE_then ?_; refine JC_seq ?_
    have hz : seqE n l = 0 := Classical.byContradiction h11
    obtain ⟨m, rfl, hC⟩ := cert_of hz
    have hten := hC.ten
    have hwl := waysL_len m l
    have hp : 0 < 2 ^ m := Nat.pow_pos (by decide)
    refine JC_region ?_; refine JL_m ?_; refine JL_m ?_; refine JL_callF' (Asks.cons (holds_of_mem am) Asks.nil) (rways_con hC.dg hln hten rfl) rfl ca95 ⟨rfl, rfl, rfl⟩ ?_; rintro _ _ ⟨ad15, c15, rfl, rfl⟩; refine JL_idx 0 sl57 rfl rfl rfl (by rw [hwl]; exact hp) (by first | exact Reads.view am) (by rw [i64s_length, hwl]; simpa using hp) ?_; refine JL_loadE ty3 rfl (by first | exact Reads.view am) (i64s_get (by rw [hwl]; exact hp)) ?_; refine JL_assign rfl ?_; refine JL_assign rfl ?_; refine JL_du 18 [] [_, _] ?_; refine JC_ret ?_; refine JE_ret (vs := [_, _]) [] Tryz.results71 ⟨rfl, rfl, rfl⟩ ?_ ?_
    · rw [cntN_ok hz, hz, Int.toNat_natCast]; exact ⟨rfl, rfl⟩
    · exact all_nil

end Go.Fw.K
