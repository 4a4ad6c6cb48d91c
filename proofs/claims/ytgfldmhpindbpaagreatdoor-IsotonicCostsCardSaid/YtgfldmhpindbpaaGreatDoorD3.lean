/- Walks through functions of the given program: each meets its contract. (Printed by a program of this repo.) -/
import Derived.Test.YtgfldmhpindbpaaGreatDoorIso
import Derived.Test.YtgfldmhpindbpaaGreatDoorC4
import Derived.Test.YtgfldmhpindbpaaGreatDoorC6
import Derived.Test.YtgfldmhpindbpaaGreatDoorProg
namespace Go.Fw.D3
open Go Go.RowKit Go.Proofs Go.Nat9 Go.Fw
attribute [local irreducible] JC JL JE
theorem ca23 : callable Tryz.prog 23 = true := by kernel_rfl
theorem ca24 : callable Tryz.prog 24 = true := by kernel_rfl
theorem ca25 : callable Tryz.prog 25 = true := by kernel_rfl
theorem ca26 : callable Tryz.prog 26 = true := by kernel_rfl
theorem ca27 : callable Tryz.prog 27 = true := by kernel_rfl
theorem ca30 : callable Tryz.prog 30 = true := by kernel_rfl
theorem ca31 : callable Tryz.prog 31 = true := by kernel_rfl
theorem mixed : Tryz.prog.follows .mixedOrders = true := by kernel_rfl
theorem sl22 : slOf Tryz.prog 22 = some (3, 1, 8, [.int .i64 0]) := by kernel_rfl
theorem sl23 : slOf Tryz.prog 23 = some (30, 3, 56, [.bool false, .slice none 0 0, .slice none 0 0]) := by kernel_rfl
theorem st30 : stOf Tryz.prog 30 = some ([(0, 1), (1, 1), (2, 1)], [.bool false, .slice none 0 0, .slice none 0 0]) := by kernel_rfl
theorem ty3 : tyOf Tryz.prog 3 = some (false, 1) := by kernel_rfl
theorem ty30 : tyOf Tryz.prog 30 = some (true, 3) := by kernel_rfl
theorem z30 : zeroOf Tryz.prog 30 = some [.bool false, .slice none 0 0, .slice none 0 0] := by kernel_rfl
end Go.Fw.D3
namespace Go.Fw.K
open Go Go.RowKit Go.Proofs Go.Nat9 Go.Fw Go.Fw.D3
attribute [local irreducible] JC JL JE

set_option maxHeartbeats 1000000 in
theorem rcost_con {adv adw : Option Addr} {cv cw : Nat} {V W : List Int} {ad3 : Option Addr} {c3 : Nat} {l : List Fi} (hl : ∀ x ∈ l, x.ok 4) (hn3 : l.length ≤ 1000000) :
    ConF Tryz.prog 7 [.slice adv V.length cv, .slice adw W.length cw, .slice ad3 l.length c3] [vCells adv (i64s V), vCells adw (i64s W), vCells ad3 (rcells l), vFis l]
      (FOE (costO V W l) (costE V W l.length)) := by
  have _ := hn3
  refine ConF_of Tryz.func7 rfl 54 _ rfl rfl ?_
  intro w0
  refine JC_norm ⟨54, [], [_, _, _, _, _, _, _, _, _, _, _, _, _, _, _, _, _, _, _, _, _, _, _, _, _, _, _, _, _, _, _, _, _, _, _, _, _, _, _, _, _, _, _, _, _, _, _, _, _, _, _, _, _, _]⟩ [] [_, _, _, _] rfl rfl rfl ?_
  refine JC_seq ?_
  refine JC_region ?_
  refine JL_alloc z30 (fun b6 => ?_)
  refine JL_assign rfl ?_
  refine JL_done_up 54 [box _ _ [_, _, _]] [_, _, _, _] rfl rfl (by simp only [nrmF]; rfl) rfl rfl ?_
  refine JC_seq ?_
  refine JC_seq ?_
  refine JC_region ?_
  refine JL_move rfl ?_
  refine JL_move rfl ?_
  refine JL_callF' (Asks.cons (holds_of_mem (by repeat (first | with_reducible exact mm0 | refine mmS ?_))) (Asks.cons (holds_of_mem (by repeat (first | with_reducible exact mm0 | refine mmS ?_))) Asks.nil)) (rdata_con) rfl ca23 ⟨rfl, rfl, rfl⟩ ?_
  rintro _ _ ⟨rfl, rfl⟩
  refine JL_assign rfl ?_
  refine JL_done_up 54 [box _ _ [_, _, _]] [_, _, _, _] rfl rfl (by simp only [nrmF]; rfl) rfl rfl ?_
  refine JC_seq ?_
  refine JC_region ?_
  refine JL_move rfl ?_
  refine JL_neq rfl rfl ?_
  refine JL_split (fun h16 => ?_) (fun h16 => ?_)
  · refine JL_done_up 54 [box _ _ [_, _, _]] [_, _, _, _] rfl rfl (by simp only [nrmF]; rfl) rfl rfl ?_
    refine JC_true rfl ?_
    refine JC_seq ?_
    refine JC_region ?_
    refine JL_build (cs := [_, _, _]) [] st30 rfl rfl ?_
    refine JL_move rfl ?_
    refine JL_store (vs := [_, _, _]) 0 ty30 rfl rfl rfl (AllOne.cons rfl (AllOne.cons rfl (AllOne.cons rfl AllOne.nil))) rfl (Nat.le_of_ble_eq_true rfl) ?_
    refine JL_assign rfl ?_
    refine JL_done_up 54 [box _ _ [_, _, _]] [_, _, _, _] rfl rfl (by simp only [nrmF]; rfl) rfl rfl ?_
    refine JC_ret ?_
    refine JE_then_ret ?_
    have hce : costE V W l.length = chk V W := costE_chk h16
    refine JE_nilView ?_
    refine JE_ret (vs := [_, _]) [vCells none (u32s []), vCells none (u32s [])] Tryz.results7 ⟨RV.cell (vs := [_, _, _]) 0 ty30 rfl rfl ⟨rfl, rfl, rfl, trivial⟩, rfl, rfl⟩ ?_ ?_
    · rw [costO_no (by rw [hce]; first | exact h16 | decide), hce]; exact ⟨none, 0, none, 0, rfl, rfl⟩
    · exact (all_cons (by repeat (first | with_reducible exact mm0 | refine mmS ?_)) (all_cons (by repeat (first | with_reducible exact mm0 | refine mmS ?_)) all_nil))
  · refine JL_done_up 54 [box _ _ [_, _, _]] [_, _, _, _] rfl rfl (by simp only [nrmF]; rfl) rfl rfl ?_
    refine JC_false rfl ?_
    refine JC_skip ?_
    refine JE_then ?_
    refine JC_seq ?_
    refine JC_seq ?_
    have hz : chk V W = 0 := Classical.byContradiction h16
    obtain ⟨hn, hvw, hok⟩ := chk_zero hz
    refine JC_region ?_
    refine JL_move rfl ?_
    refine JL_len sl23 rfl ?_
    refine JL_move rfl ?_
    refine JL_len sl22 rfl ?_
    refine JL_neq rfl rfl ?_
    refine JL_split (fun h23 => ?_) (fun h23 => ?_)
    · refine JL_done_up 54 [box _ _ [_, _, _]] [_, _, _, _] rfl rfl (by simp only [nrmF]; rfl) rfl rfl ?_
      refine JC_true rfl ?_
      refine JC_seq ?_
      refine JC_region ?_
      refine JL_build (cs := [_, _, _]) [] st30 rfl rfl ?_
      refine JL_store (vs := [_, _, _]) 0 ty30 rfl rfl rfl (AllOne.cons rfl (AllOne.cons rfl (AllOne.cons rfl AllOne.nil))) rfl (Nat.le_of_ble_eq_true rfl) ?_
      refine JL_assign rfl ?_
      refine JL_done_up 54 [box _ _ [_, _, _]] [_, _, _, _] rfl rfl (by simp only [nrmF]; rfl) rfl rfl ?_
      refine JC_ret ?_
      refine JE_then_ret ?_
      have hce : costE V W l.length = 2 := costE_len hz (by omega)
      refine JE_nilView ?_
      refine JE_ret (vs := [_, _]) [vCells none (u32s []), vCells none (u32s [])] Tryz.results7 ⟨RV.cell (vs := [_, _, _]) 0 ty30 rfl rfl ⟨rfl, rfl, rfl, trivial⟩, rfl, rfl⟩ ?_ ?_
      · rw [costO_no (by rw [hce]; first | exact h23 | decide), hce]; exact ⟨none, 0, none, 0, rfl, rfl⟩
      · exact (all_cons (by repeat (first | with_reducible exact mm0 | refine mmS ?_)) (all_cons (by repeat (first | with_reducible exact mm0 | refine mmS ?_)) all_nil))
    · refine JL_done_up 54 [box _ _ [_, _, _]] [_, _, _, _] rfl rfl (by simp only [nrmF]; rfl) rfl rfl ?_
      refine JC_false rfl ?_
      refine JC_skip ?_
      refine JE_then ?_
      refine JC_seq ?_
      refine JC_region ?_
      refine JL_callF' Asks.nil (rofi_con 0 1 (by omega) (by omega)) rfl ca24 ⟨rfl, rfl, rfl⟩ ?_
      rintro _ _ ⟨ad25, cp25, be25, ce25, rfl, rfl⟩
      refine JL_alloc z30 (fun b9 => ?_)
      refine JL_store (vs := [_, _, _]) 1 ty30 rfl rfl rfl (AllOne.cons rfl (AllOne.cons rfl (AllOne.cons rfl AllOne.nil))) rfl (Nat.le_of_ble_eq_true rfl) ?_
      refine JL_done_up 54 [box _ _ [_, _, _], box _ _ [_, _, _]] [_, _, _, _, _, _] rfl rfl (by simp only [nrmF]; rfl) rfl rfl ?_
      refine JC_seq ?_
      refine JC_seq ?_
      refine JC_region ?_
      refine JL_assign rfl ?_
      refine JL_done_up 54 [box _ _ [_, _, _], box _ _ [_, _, _]] [_, _, _, _, _, _] rfl rfl (by simp only [nrmF]; rfl) rfl rfl ?_
      refine JC_block ?_
      refine JC_loopS ((Nat) × (Rat) × (Option Addr) × (Nat) × (Option Addr) × (Nat)) (fun (i, q, ad, c, be, e) => i ≤ l.length ∧ q = cst V W (lq l) i ∧ qs q (22 * i + 4)) (fun (i, q, ad, c, be, e) => l.length - i) (fun u (i, q, ad, c, be, e) => [none, none, none, none, none, none, none, none, none, none, some (.int .i64 (i : Nat)), some (u 11), none, none, none, none, none, none, none, none, none, none, none, none, none, none, some (u 26), some (u 27), some (u 28), some (u 29), some (u 30), some (u 31), some (u 32), some (u 33), some (u 34), some (u 35), some (u 36), some (u 37), some (u 38), some (u 39), some (u 40), some (u 41), some (u 42), some (u 43), some (u 44), some (u 45), some (u 46), some (u 47), some (u 48), some (u 49), some (u 50), some (u 51), some (u 52), none]) (fun (i, q, ad, c, be, e) => [none, some (box b9 30 [.bool (fneg (some q)), .slice ad (fnum (some q)).length c, .slice be (fden (some q)).length e])]) (fun (i, q, ad, c, be, e) => [(true, vCells ad (u32s (fnum (some q)))), (true, vCells be (u32s (fden (some q))))]) (0, ofq 0 1, ad25, cp25, be25, ce25) (by kernel_rfl) ?_ (by kernel_rfl) ?_ ?_
      · exact ⟨Nat.zero_le _, ofq_one 0, (qs_int (by decide)).mono (by decide)⟩
      · exact (subset_cons (by repeat (first | with_reducible exact mm0 | refine mmS ?_)) (subset_cons (by repeat (first | with_reducible exact mm0 | refine mmS ?_)) subset_nil))
      intro u i hC
      obtain ⟨i, q, ad, c, be, e⟩ := i
      obtain ⟨hi, hq, hsq⟩ := hC
      refine JC_norm ⟨54, [], [_, _, _, _, _, _, _, _, _, _, _, _, _, _, _, _, _, _, _, _, _, _, _, _, _, _, _, _, _, _, _, _, _, _, _, _, _, _, _, _, _, _, _, _, _, _, _, _, _, _, _, _, _, _]⟩ [box _ _ [_, _, _], box _ _ [_, _, _]] [_, _, _, _, _, _, _, _] rfl rfl rfl ?_
      refine JC_seq ?_
      refine JC_seq ?_
      refine JC_region ?_
      refine JL_move rfl ?_
      refine JL_move rfl ?_
      refine JL_len sl22 rfl ?_
      refine JL_lss rfl rfl ?_
      refine JL_split (fun h29 => ?_) (fun h29 => ?_)
      · refine JL_done_up 54 [box _ _ [_, _, _], box _ _ [_, _, _]] [_, _, _, _, _, _, _, _] rfl rfl (by simp only [nrmF]; rfl) rfl rfl ?_
        refine JC_true rfl ?_
        refine JC_skip ?_
        refine JE_then ?_
        refine JC_seq ?_
        refine JC_block ?_
        refine JC_seq ?_
        have hnl : l.length = V.length := by omega
        obtain ⟨x1, x2, x3, x4⟩ := hok i (by omega)
        have hqv : qs (ofq (V.getD i 0) 1) 3 := qs_int (by omega)
        have hqw : qs (ofq (W.getD i 0) 1) 3 := qs_int (by omega)
        have hxi := hl _ (fi_mem (l := l) (j := i) (by omega))
        refine JC_fisGet (f := false) (l := l) (l.getD i dI) (by repeat (first | with_reducible exact mm0 | refine mmS ?_)) (fi_mem (by omega)) ?_
        have hqx := fi_qs hxi
        have hq1 : qs (ofq (V.getD i 0) 1 - (l.getD i dI).q) 9 := hqv.sub hqx (by decide)
        have hq2 : qs (ofq (W.getD i 0) 1 * ((ofq (V.getD i 0) 1 - (l.getD i dI).q) * (ofq (V.getD i 0) 1 - (l.getD i dI).q))) 21 := hqw.mul (hq1.mul hq1 (Nat.le_refl 18)) (Nat.le_refl 21)
        have hq3 : qs (q + (ofq (W.getD i 0) 1 * ((ofq (V.getD i 0) 1 - (l.getD i dI).q) * (ofq (V.getD i 0) 1 - (l.getD i dI).q)))) (22 * (i + 1) + 4) := hsq.add hq2 (by omega)
        refine JC_drawT mixed 11 [spV 32 [] _, spV 33 [] _, spV 34 [0, 1] _, spV 35 [2] _, spC 36 [3] _, spV 37 [] _, spV 38 [] _, spV 39 [5, 6] _, spV 40 [7] _, spC 41 [4, 8] _, spA 11 30 [.bool false, .slice none 0 0, .slice none 0 0]] ⟨OblS_V (fun vals ex ψ => (by
            refine JL_normQ ⟨54, [(32, _), (33, _), (34, _), (35, _), (36, _), (37, _), (38, _), (39, _), (40, _), (41, _), (11, _)], _⟩ (_ :: _ :: _ :: _ :: _ :: _ :: _ :: _ :: _ :: _ :: ψ) rfl rfl ?_
            refine JL_move rfl ?_
            exact JL_nil (JE_stepV rfl ss0))), OblS_V (fun vals ex ψ => (by
            refine JL_normQ ⟨54, [(32, _), (33, _), (34, _), (35, _), (36, _), (37, _), (38, _), (39, _), (40, _), (41, _), (11, _)], _⟩ (_ :: _ :: _ :: _ :: _ :: _ :: _ :: _ :: _ :: _ :: ψ) rfl rfl ?_
            refine JL_move rfl ?_
            exact JL_nil (JE_stepV rfl ss0))), OblS_V (fun vals ex ψ => (by
            refine JL_normQ ⟨54, [(32, _), (33, _), (34, _), (35, _), (36, _), (37, _), (38, _), (39, _), (40, _), (41, _), (11, _)], _⟩ (_ :: _ :: _ :: _ :: _ :: _ :: _ :: _ :: _ :: _ :: ψ) rfl rfl ?_
            refine JL_idx i sl22 rfl rfl rfl (by omega) (by first | exact Reads.view (by repeat (first | with_reducible exact mm0 | refine mmS ?_))) (by first | (rw [u32s_length]; omega) | (rw [i64s_length]; omega)) ?_
            exact JL_nil (JE_stepV rfl ss0))), OblS_V (fun vals ex ψ => (by
            refine JL_normQ ⟨54, [(32, _), (33, _), (34, _), (35, _), (36, _), (37, _), (38, _), (39, _), (40, _), (41, _), (11, _)], _⟩ (_ :: _ :: _ :: _ :: _ :: _ :: _ :: _ :: _ :: _ :: ψ) rfl rfl ?_
            refine JL_loadE ty3 rfl (by first | exact Reads.view (by repeat (first | with_reducible exact mm0 | refine mmS ?_))) (i64s_get (by omega)) ?_
            exact JL_nil (JE_stepV rfl ss0))), OblS_C (fun vals ex ψ => (by
            refine JL_normQ ⟨54, [(32, _), (33, _), (34, _), (35, _), (36, _), (37, _), (38, _), (39, _), (40, _), (41, _), (11, _)], _⟩ (_ :: _ :: _ :: _ :: _ :: _ :: _ :: _ :: _ :: _ :: ψ) rfl rfl ?_
            refine JL_callF' Asks.nil (rofi_con (V.getD i 0) 1 (by omega) (by omega)) rfl ca24 ⟨rfl, rfl, rfl⟩ ?_
            exact fun v φo hP => JL_nil (JE_stepC φo rfl hP (fun p hp => mapB_l hp) (fun p hp => mapB_r (ss0 p hp))))), OblS_V (fun vals ex ψ => (by
            refine JL_normQ ⟨54, [(32, _), (33, _), (34, _), (35, _), (36, _), (37, _), (38, _), (39, _), (40, _), (41, _), (11, _)], _⟩ (_ :: _ :: _ :: _ :: _ :: _ :: _ :: _ :: _ :: _ :: ψ) rfl rfl ?_
            refine JL_move rfl ?_
            exact JL_nil (JE_stepV rfl ss0))), OblS_V (fun vals ex ψ => (by
            refine JL_normQ ⟨54, [(32, _), (33, _), (34, _), (35, _), (36, _), (37, _), (38, _), (39, _), (40, _), (41, _), (11, _)], _⟩ (_ :: _ :: _ :: _ :: _ :: _ :: _ :: _ :: _ :: _ :: ψ) rfl rfl ?_
            refine JL_move rfl ?_
            exact JL_nil (JE_stepV rfl ss0))), OblS_V (fun vals ex ψ => (by
            refine JL_normQ ⟨54, [(32, _), (33, _), (34, _), (35, _), (36, _), (37, _), (38, _), (39, _), (40, _), (41, _), (11, _)], _⟩ (_ :: _ :: _ :: _ :: _ :: _ :: _ :: _ :: _ :: _ :: ψ) rfl rfl ?_
            refine JL_indexAddr i sl23 rfl rfl rfl (by omega) (by first | exact Reads.view (by repeat (first | with_reducible exact mm0 | refine mmS ?_))) (by rw [rcells_length]; omega) ?_
            exact JL_nil (JE_stepV rfl ss0))), OblS_V (fun vals ex ψ => (by
            refine JL_normQ ⟨54, [(32, _), (33, _), (34, _), (35, _), (36, _), (37, _), (38, _), (39, _), (40, _), (41, _), (11, _)], _⟩ (_ :: _ :: _ :: _ :: _ :: _ :: _ :: _ :: _ :: _ :: ψ) rfl rfl ?_
            refine JL_loadEA (vs := [_, _, _]) ty30 (Nat.zero_lt_succ _) rfl (by first | exact Reads.view (by repeat (first | with_reducible exact mm0 | refine mmS ?_))) (rcells_getA (by omega)) ?_
            exact JL_nil (JE_stepV rfl ss0))), OblS_C (fun vals ex ψ => (by
            refine JL_normQ ⟨54, [(32, _), (33, _), (34, _), (35, _), (36, _), (37, _), (38, _), (39, _), (40, _), (41, _), (11, _)], _⟩ (_ :: _ :: _ :: _ :: _ :: _ :: _ :: _ :: _ :: _ :: _ :: ψ) rfl rfl ?_
            generalize vals 4 = x36
            refine JL_usePost mm0 (fun φo hP => ?_)
            obtain ⟨ad36, cp36, be36, ce36, rfl, rfl⟩ := hP
            refine JL_norm _ _ (_ :: _ :: _ :: _ :: _ :: _ :: _ :: _ :: _ :: _ :: _ :: _ :: _ :: ψ) rfl rfl rfl ?_
            refine JL_callF' (Asks.cons (holds_of_mem (by repeat (first | with_reducible exact mm0 | refine mmS ?_))) (Asks.cons (holds_of_mem (by repeat (first | with_reducible exact mm0 | refine mmS ?_))) (Asks.cons (holds_of_mem (by repeat (first | with_reducible exact mm0 | refine mmS ?_))) (Asks.cons (holds_of_mem (by repeat (first | with_reducible exact mm0 | refine mmS ?_))) Asks.nil)))) (rsubq_con (FIn.some (hqv.mono (by decide))) (hxi.mono (by decide))) rfl ca25 ⟨rfl, rfl, rfl⟩ ?_
            exact fun v φo hP => JL_nil (JE_stepC φo rfl hP (fun p hp => mapB_l hp) (fun p hp => mapB_r ((ssS (ssS ss0)) p hp))))), OblS_al rfl z30, trivial⟩ (by kernel_rfl) (fun vals bs => ?_)
        refine JL_normL [_] ⟨54, [(32, _), (33, _), (34, _), (35, _), (36, _), (37, _), (38, _), (39, _), (40, _), (41, _), (11, _)], _⟩ [box _ _ [_, _, _], box _ _ [_, _, _], box _ _ [_, _, _]] [_, _, _, _, _, _, _, _, _, _, _, _] rfl rfl rfl rfl ?_
        generalize vals (0 + 1 + 1 + 1 + 1) = x36
        generalize vals (0 + 1 + 1 + 1 + 1 + 1 + 1 + 1 + 1 + 1) = x41
        generalize bs (0 + 1 + 1 + 1 + 1 + 1 + 1 + 1 + 1 + 1 + 1) = b11
        refine JL_usePost (mmS mm0) (fun φo hP => ?_)
        obtain ⟨ad41, cp41, be41, ce41, rfl, rfl⟩ := hP
        refine JL_norm _ [box _ _ [_, _, _], box _ _ [_, _, _], box _ _ [_, _, _]] [_, _, _, _, _, _, _, _, _, _, _, _, _, _] rfl rfl rfl ?_
        refine JL_store (vs := [_, _, _]) 2 ty30 rfl rfl rfl (AllOne.cons rfl (AllOne.cons rfl (AllOne.cons rfl AllOne.nil))) rfl (Nat.le_of_ble_eq_true rfl) ?_
        refine JL_done_up 54 [box _ _ [_, _, _], box _ _ [_, _, _], box _ _ [_, _, _]] [_, _, _, _, _, _, _, _, _, _, _, _, _, _] rfl rfl (by simp only [nrmF]; rfl) rfl rfl ?_
        refine JC_drawT mixed 10 [spV 42 [] _, spV 43 [] _, spV 44 [] _, spV 45 [1, 2] _, spV 46 [3] _, spC 47 [4] _, spV 48 [] _, spV 49 [] _, spC 50 [6, 7] _, spC 51 [5, 8] _] ⟨OblS_V (fun vals ex ψ => (by
            refine JL_normQ ⟨54, [(42, _), (43, _), (44, _), (45, _), (46, _), (47, _), (48, _), (49, _), (50, _), (51, _)], _⟩ (_ :: _ :: _ :: _ :: _ :: _ :: _ :: _ :: _ :: _ :: _ :: _ :: _ :: _ :: ψ) rfl rfl ?_
            refine JL_loadA (vs := [_, _, _]) 1 ty30 rfl rfl ⟨rfl, rfl, rfl, trivial⟩ ?_
            exact JL_nil (JE_stepV rfl ss0))), OblS_V (fun vals ex ψ => (by
            refine JL_normQ ⟨54, [(42, _), (43, _), (44, _), (45, _), (46, _), (47, _), (48, _), (49, _), (50, _), (51, _)], _⟩ (_ :: _ :: _ :: _ :: _ :: _ :: _ :: _ :: _ :: _ :: _ :: _ :: _ :: _ :: ψ) rfl rfl ?_
            refine JL_move rfl ?_
            exact JL_nil (JE_stepV rfl ss0))), OblS_V (fun vals ex ψ => (by
            refine JL_normQ ⟨54, [(42, _), (43, _), (44, _), (45, _), (46, _), (47, _), (48, _), (49, _), (50, _), (51, _)], _⟩ (_ :: _ :: _ :: _ :: _ :: _ :: _ :: _ :: _ :: _ :: _ :: _ :: _ :: _ :: ψ) rfl rfl ?_
            refine JL_move rfl ?_
            exact JL_nil (JE_stepV rfl ss0))), OblS_V (fun vals ex ψ => (by
            refine JL_normQ ⟨54, [(42, _), (43, _), (44, _), (45, _), (46, _), (47, _), (48, _), (49, _), (50, _), (51, _)], _⟩ (_ :: _ :: _ :: _ :: _ :: _ :: _ :: _ :: _ :: _ :: _ :: _ :: _ :: _ :: ψ) rfl rfl ?_
            refine JL_idx i sl22 rfl rfl rfl (by omega) (by first | exact Reads.view (by repeat (first | with_reducible exact mm0 | refine mmS ?_))) (by first | (rw [u32s_length]; omega) | (rw [i64s_length]; omega)) ?_
            exact JL_nil (JE_stepV rfl ss0))), OblS_V (fun vals ex ψ => (by
            refine JL_normQ ⟨54, [(42, _), (43, _), (44, _), (45, _), (46, _), (47, _), (48, _), (49, _), (50, _), (51, _)], _⟩ (_ :: _ :: _ :: _ :: _ :: _ :: _ :: _ :: _ :: _ :: _ :: _ :: _ :: _ :: ψ) rfl rfl ?_
            refine JL_loadE ty3 rfl (by first | exact Reads.view (by repeat (first | with_reducible exact mm0 | refine mmS ?_))) (i64s_get (by omega)) ?_
            exact JL_nil (JE_stepV rfl ss0))), OblS_C (fun vals ex ψ => (by
            refine JL_normQ ⟨54, [(42, _), (43, _), (44, _), (45, _), (46, _), (47, _), (48, _), (49, _), (50, _), (51, _)], _⟩ (_ :: _ :: _ :: _ :: _ :: _ :: _ :: _ :: _ :: _ :: _ :: _ :: _ :: _ :: ψ) rfl rfl ?_
            refine JL_callF' Asks.nil (rofi_con (W.getD i 0) 1 (by omega) (by omega)) rfl ca24 ⟨rfl, rfl, rfl⟩ ?_
            exact fun v φo hP => JL_nil (JE_stepC φo rfl hP (fun p hp => mapB_l hp) (fun p hp => mapB_r (ss0 p hp))))), OblS_V (fun vals ex ψ => (by
            refine JL_normQ ⟨54, [(42, _), (43, _), (44, _), (45, _), (46, _), (47, _), (48, _), (49, _), (50, _), (51, _)], _⟩ (_ :: _ :: _ :: _ :: _ :: _ :: _ :: _ :: _ :: _ :: _ :: _ :: _ :: _ :: ψ) rfl rfl ?_
            refine JL_loadA (vs := [_, _, _]) 2 ty30 rfl rfl ⟨rfl, rfl, rfl, trivial⟩ ?_
            exact JL_nil (JE_stepV rfl ss0))), OblS_V (fun vals ex ψ => (by
            refine JL_normQ ⟨54, [(42, _), (43, _), (44, _), (45, _), (46, _), (47, _), (48, _), (49, _), (50, _), (51, _)], _⟩ (_ :: _ :: _ :: _ :: _ :: _ :: _ :: _ :: _ :: _ :: _ :: _ :: _ :: _ :: ψ) rfl rfl ?_
            refine JL_loadA (vs := [_, _, _]) 2 ty30 rfl rfl ⟨rfl, rfl, rfl, trivial⟩ ?_
            exact JL_nil (JE_stepV rfl ss0))), OblS_C (fun vals ex ψ => (by
            refine JL_normQ ⟨54, [(42, _), (43, _), (44, _), (45, _), (46, _), (47, _), (48, _), (49, _), (50, _), (51, _)], _⟩ (_ :: _ :: _ :: _ :: _ :: _ :: _ :: _ :: _ :: _ :: _ :: _ :: _ :: _ :: ψ) rfl rfl ?_
            refine JL_callF' (Asks.cons (holds_of_mem (by repeat (first | with_reducible exact mm0 | refine mmS ?_))) (Asks.cons (holds_of_mem (by repeat (first | with_reducible exact mm0 | refine mmS ?_))) (Asks.cons (holds_of_mem (by repeat (first | with_reducible exact mm0 | refine mmS ?_))) (Asks.cons (holds_of_mem (by repeat (first | with_reducible exact mm0 | refine mmS ?_))) Asks.nil)))) (rmulq_con (FIn.some (q := (ofq (V.getD i 0) 1 - (l.getD i dI).q)) (hq1.mono (by decide))) (FIn.some (q := (ofq (V.getD i 0) 1 - (l.getD i dI).q)) (hq1.mono (by decide)))) rfl ca27 ⟨rfl, rfl, rfl⟩ ?_
            exact fun v φo hP => JL_nil (JE_stepC φo rfl hP (fun p hp => mapB_l hp) (fun p hp => mapB_r (ss0 p hp))))), OblS_C (fun vals ex ψ => (by
            refine JL_normQ ⟨54, [(42, _), (43, _), (44, _), (45, _), (46, _), (47, _), (48, _), (49, _), (50, _), (51, _)], _⟩ (_ :: _ :: _ :: _ :: _ :: _ :: _ :: _ :: _ :: _ :: _ :: _ :: _ :: _ :: _ :: _ :: ψ) rfl rfl ?_
            generalize vals 5 = x47
            refine JL_usePost mm0 (fun φo hP => ?_)
            obtain ⟨ad47, cp47, be47, ce47, rfl, rfl⟩ := hP
            refine JL_norm _ _ (_ :: _ :: _ :: _ :: _ :: _ :: _ :: _ :: _ :: _ :: _ :: _ :: _ :: _ :: _ :: _ :: _ :: _ :: ψ) rfl rfl rfl ?_
            generalize vals 8 = x50
            refine JL_usePost (mmS (mmS (mmS mm0))) (fun φo hP => ?_)
            obtain ⟨ad50, cp50, be50, ce50, rfl, rfl⟩ := hP
            refine JL_norm _ _ (_ :: _ :: _ :: _ :: _ :: _ :: _ :: _ :: _ :: _ :: _ :: _ :: _ :: _ :: _ :: _ :: _ :: _ :: _ :: _ :: ψ) rfl rfl rfl ?_
            refine JL_callF' (Asks.cons (holds_of_mem (by repeat (first | with_reducible exact mm0 | refine mmS ?_))) (Asks.cons (holds_of_mem (by repeat (first | with_reducible exact mm0 | refine mmS ?_))) (Asks.cons (holds_of_mem (by repeat (first | with_reducible exact mm0 | refine mmS ?_))) (Asks.cons (holds_of_mem (by repeat (first | with_reducible exact mm0 | refine mmS ?_))) Asks.nil)))) (rmulq_con (FIn.some (hqw.mono (by decide))) (FIn.some ((hq1.mul hq1 (Nat.le_refl 18)).mono (by decide)))) rfl ca27 ⟨rfl, rfl, rfl⟩ ?_
            exact fun v φo hP => JL_nil (JE_stepC φo rfl hP (fun p hp => mapB_l hp) (fun p hp => mapB_r ((ssS (ssS (ssS (ssS ss0)))) p hp))))), trivial⟩ (by kernel_rfl) (fun vals bs => ?_)
        refine JL_normL [_, _] ⟨54, [(42, _), (43, _), (44, _), (45, _), (46, _), (47, _), (48, _), (49, _), (50, _), (51, _)], _⟩ [box _ _ [_, _, _], box _ _ [_, _, _], box _ _ [_, _, _]] [_, _, _, _, _, _, _, _, _, _, _, _, _, _, _, _, _] rfl rfl rfl rfl ?_
        generalize vals (0 + 1 + 1 + 1 + 1 + 1) = x47
        generalize vals (0 + 1 + 1 + 1 + 1 + 1 + 1 + 1 + 1) = x50
        generalize vals (0 + 1 + 1 + 1 + 1 + 1 + 1 + 1 + 1 + 1) = x51
        refine JL_usePost (mmS (mmS mm0)) (fun φo hP => ?_)
        obtain ⟨ad51, cp51, be51, ce51, rfl, rfl⟩ := hP
        refine JL_norm _ [box _ _ [_, _, _], box _ _ [_, _, _], box _ _ [_, _, _]] [_, _, _, _, _, _, _, _, _, _, _, _, _, _, _, _, _, _, _] rfl rfl rfl ?_
        refine JL_callF' (Asks.cons (holds_of_mem (by repeat (first | with_reducible exact mm0 | refine mmS ?_))) (Asks.cons (holds_of_mem (by repeat (first | with_reducible exact mm0 | refine mmS ?_))) (Asks.cons (holds_of_mem (by repeat (first | with_reducible exact mm0 | refine mmS ?_))) (Asks.cons (holds_of_mem (by repeat (first | with_reducible exact mm0 | refine mmS ?_))) Asks.nil)))) (raddq_con (FIn.some (hsq.mono (by omega))) (FIn.some (q := (ofq (W.getD i 0) 1 * ((ofq (V.getD i 0) 1 - (l.getD i dI).q) * (ofq (V.getD i 0) 1 - (l.getD i dI).q)))) (hq2.mono (by decide)))) rfl ca26 ⟨rfl, rfl, rfl⟩ ?_
        rintro _ _ ⟨ad52, cp52, be52, ce52, rfl, rfl⟩
        refine JL_store (vs := [_, _, _]) 1 ty30 rfl rfl rfl (AllOne.cons rfl (AllOne.cons rfl (AllOne.cons rfl AllOne.nil))) rfl (Nat.le_of_ble_eq_true rfl) ?_
        refine JL_nil_up 54 [box _ _ [_, _, _], box _ _ [_, _, _], box _ _ [_, _, _]] [_, _, _, _, _, _, _, _, _, _, _, _, _, _, _, _, _, _, _, _, _] rfl rfl (by simp only [nrmF]; rfl) rfl rfl ?_
        refine JE_block_normal ?_
        refine JE_then ?_
        refine JC_region ?_
        refine JL_move rfl ?_
        refine JL_add_to rfl rfl (IntWalk.i64_in _ (by omega)) ?_
        refine JL_assign rfl ?_
        refine JL_nil_up 54 [box _ _ [_, _, _], box _ _ [_, _, _], box _ _ [_, _, _]] [_, _, _, _, _, _, _, _, _, _, _, _, _, _, _, _, _, _, _, _, _] rfl rfl (by simp only [nrmF]; rfl) rfl rfl ?_
        refine JE_dropAt 2 ?_
        refine JE_norm _ [box _ _ [_, _, _], box _ _ [_, _, _]] [_, _, _, _, _, _, _, _, _, _, _, _, _, _, _, _, _, _, _, _, _] rfl rfl rfl ?_
        refine JE_nextS (i + 1, q + (ofq (W.getD i 0) 1 * ((ofq (V.getD i 0) 1 - (l.getD i dI).q) * (ofq (V.getD i 0) 1 - (l.getD i dI).q))), ad52, cp52, be52, ce52) (by kernel_rfl) ?_ ?_ (by kernel_rfl) ?_
        · exact ⟨by omega, by rw [hq, cst, ofq_one, ofq_one]; rfl, hq3⟩
        · first | omega | (dsimp only; omega)
        · exact subset_app (subset_cons (by repeat (first | with_reducible exact mm0 | refine mmS ?_)) (subset_cons (by repeat (first | with_reducible exact mm0 | refine mmS ?_)) subset_nil)) (ssS (ssS (ssS (ssS (ssS (ssS (ssS (ssS (ssS (ssS (ssS (ssS (ssS (ssS (ssS ss0)))))))))))))))
      · refine JL_done_up 54 [box _ _ [_, _, _], box _ _ [_, _, _]] [_, _, _, _, _, _, _, _] rfl rfl (by simp only [nrmF]; rfl) rfl rfl ?_
        refine JC_false rfl ?_
        refine JC_exit ?_
        refine JE_then_exit ?_
        refine JE_nextS_exit ?_
        refine JE_block_exit ?_
        refine JE_then ?_
        refine JC_seq ?_
        refine JC_region ?_
        refine JL_loadA (vs := [_, _, _]) 1 ty30 rfl rfl ⟨rfl, rfl, rfl, trivial⟩ ?_
        refine JL_store (vs := [_, _, _]) 0 ty30 rfl rfl rfl (AllOne.cons rfl (AllOne.cons rfl (AllOne.cons rfl AllOne.nil))) rfl (Nat.le_of_ble_eq_true rfl) ?_
        refine JL_assign rfl ?_
        refine JL_done_up 54 [box _ _ [_, _, _], box _ _ [_, _, _]] [_, _, _, _, _, _, _, _] rfl rfl (by simp only [nrmF]; rfl) rfl rfl ?_
        refine JC_ret ?_
        have hie : i = V.length := by omega
        subst hie
        have hce : costE V W l.length = 0 := costE_ok hz (by omega)
        have hqe : q = costV V W l := hq
        subst hqe
        refine JE_ret (vs := [_, _]) [vCells ad (u32s (fnum (some (costV V W l)))), vCells be (u32s (fden (some (costV V W l))))] Tryz.results7 ⟨RV.cell (vs := [_, _, _]) 0 ty30 rfl rfl ⟨rfl, rfl, rfl, trivial⟩, rfl, rfl⟩ ?_ ?_
        · rw [costO_ok hce, hce]; exact ⟨ad, c, be, e, rfl, rfl⟩
        · exact (all_cons (by repeat (first | with_reducible exact mm0 | refine mmS ?_)) (all_cons (by repeat (first | with_reducible exact mm0 | refine mmS ?_)) all_nil))

theorem rfalling_con {ad3 : Option Addr} {c3 : Nat} {l : List Fi} (hl : ∀ x ∈ l, x.ok 4) (hn3 : l.length ≤ 1000000) :
    ConF Tryz.prog 12 [.slice ad3 l.length c3] [vCells ad3 (rcells l), vFis l]
      (fun v φo => v = .bool (decide (Falls l)) ∧ φo = []) := by
  refine ConF_of Tryz.func12 rfl 21 _ rfl rfl ?_
  intro w0
  refine JC_norm ⟨21, [], [_, _, _, _, _, _, _, _, _, _, _, _, _, _, _, _, _, _, _, _, _]⟩ [] [_, _] rfl rfl rfl ?_
  refine JC_seq ?_
  refine JC_region ?_
  refine JL_assign rfl ?_
  refine JL_done_up 21 [] [_, _] rfl rfl (by simp only [nrmF]; rfl) rfl rfl ?_
  refine JC_seq ?_
  refine JC_seq ?_
  refine JC_region ?_
  refine JL_assign rfl ?_
  refine JL_done_up 21 [] [_, _] rfl rfl (by simp only [nrmF]; rfl) rfl rfl ?_
  refine JC_block ?_
  refine JC_loopS ((Nat)) (fun (i : Nat) => 1 ≤ i ∧ (i ≤ l.length ∨ i = 1) ∧ ∀ j, j + 1 < i → (l.getD (j + 1) dI).q ≤ (l.getD j dI).q) (fun (i : Nat) => l.length - i) (fun u (i : Nat) => [none, none, some (u 2), some (.int .i64 (i : Nat)), some (u 4), some (u 5), some (u 6), some (u 7), some (u 8), some (u 9), some (u 10), some (u 11), some (u 12), some (u 13), some (u 14), some (u 15), some (u 16), some (u 17), some (u 18), some (u 19), some (u 20)]) (fun (i : Nat) => []) (fun (i : Nat) => []) (1) (by kernel_rfl) ?_ (by kernel_rfl) ?_ ?_
  · exact ⟨Nat.le_refl _, .inr rfl, fun j hj => absurd hj (by omega)⟩
  · exact subset_nil
  intro u i hC
  obtain ⟨hi1, hi2, hf⟩ := hC
  refine JC_norm ⟨21, [], [_, _, _, _, _, _, _, _, _, _, _, _, _, _, _, _, _, _, _, _, _]⟩ [] [_, _] rfl rfl rfl ?_
  refine JC_seq ?_
  refine JC_seq ?_
  refine JC_region ?_
  refine JL_move rfl ?_
  refine JL_move rfl ?_
  refine JL_len sl23 rfl ?_
  refine JL_lss rfl rfl ?_
  refine JL_split (fun h7 => ?_) (fun h7 => ?_)
  · refine JL_done_up 21 [] [_, _] rfl rfl (by simp only [nrmF]; rfl) rfl rfl ?_
    refine JC_true rfl ?_
    refine JC_skip ?_
    refine JE_then ?_
    refine JC_seq ?_
    refine JC_block ?_
    refine JC_seq ?_
    have hxim1 := hl _ (fi_mem (l := l) (j := (i - 1)) (by omega))
    refine JC_fisGet (f := false) (l := l) (l.getD (i - 1) dI) (by repeat (first | with_reducible exact mm0 | refine mmS ?_)) (fi_mem (by omega)) ?_
    have hxi := hl _ (fi_mem (l := l) (j := i) (by omega))
    refine JC_fisGet (f := false) (l := l) (l.getD i dI) (by repeat (first | with_reducible exact mm0 | refine mmS ?_)) (fi_mem (by omega)) ?_
    refine JC_drawT mixed 9 [spV 10 [] _, spV 11 [] _, spV 12 [0, 1] _, spV 13 [2] _, spV 14 [] _, spV 15 [] _, spV 16 [5] _, spV 17 [4, 6] _, spV 18 [7] _] ⟨OblS_V (fun vals ex ψ => (by
        refine JL_normQ ⟨21, [(10, _), (11, _), (12, _), (13, _), (14, _), (15, _), (16, _), (17, _), (18, _)], _⟩ (_ :: _ :: _ :: _ :: _ :: _ :: ψ) rfl rfl ?_
        refine JL_move rfl ?_
        exact JL_nil (JE_stepV rfl ss0))), OblS_V (fun vals ex ψ => (by
        refine JL_normQ ⟨21, [(10, _), (11, _), (12, _), (13, _), (14, _), (15, _), (16, _), (17, _), (18, _)], _⟩ (_ :: _ :: _ :: _ :: _ :: _ :: ψ) rfl rfl ?_
        refine JL_move rfl ?_
        exact JL_nil (JE_stepV rfl ss0))), OblS_V (fun vals ex ψ => (by
        refine JL_normQ ⟨21, [(10, _), (11, _), (12, _), (13, _), (14, _), (15, _), (16, _), (17, _), (18, _)], _⟩ (_ :: _ :: _ :: _ :: _ :: _ :: ψ) rfl rfl ?_
        refine JL_indexAddr i sl23 rfl rfl rfl (by omega) (by first | exact Reads.view (by repeat (first | with_reducible exact mm0 | refine mmS ?_))) (by rw [rcells_length]; omega) ?_
        exact JL_nil (JE_stepV rfl ss0))), OblS_V (fun vals ex ψ => (by
        refine JL_normQ ⟨21, [(10, _), (11, _), (12, _), (13, _), (14, _), (15, _), (16, _), (17, _), (18, _)], _⟩ (_ :: _ :: _ :: _ :: _ :: _ :: ψ) rfl rfl ?_
        refine JL_loadEA (vs := [_, _, _]) ty30 (Nat.zero_lt_succ _) rfl (by first | exact Reads.view (by repeat (first | with_reducible exact mm0 | refine mmS ?_))) (rcells_getA (by omega)) ?_
        exact JL_nil (JE_stepV rfl ss0))), OblS_V (fun vals ex ψ => (by
        refine JL_normQ ⟨21, [(10, _), (11, _), (12, _), (13, _), (14, _), (15, _), (16, _), (17, _), (18, _)], _⟩ (_ :: _ :: _ :: _ :: _ :: _ :: ψ) rfl rfl ?_
        refine JL_move rfl ?_
        exact JL_nil (JE_stepV rfl ss0))), OblS_V (fun vals ex ψ => (by
        refine JL_normQ ⟨21, [(10, _), (11, _), (12, _), (13, _), (14, _), (15, _), (16, _), (17, _), (18, _)], _⟩ (_ :: _ :: _ :: _ :: _ :: _ :: ψ) rfl rfl ?_
        refine JL_move rfl ?_
        exact JL_nil (JE_stepV rfl ss0))), OblS_V (fun vals ex ψ => (by
        refine JL_normQ ⟨21, [(10, _), (11, _), (12, _), (13, _), (14, _), (15, _), (16, _), (17, _), (18, _)], _⟩ (_ :: _ :: _ :: _ :: _ :: _ :: ψ) rfl rfl ?_
        refine JL_sub_to rfl rfl (IntWalk.i64_in _ (by omega)) ?_
        rw [show ((i : Int) - 1 : Int) = ((i - 1 : Nat) : Int) from by omega]
        exact JL_nil (JE_stepV rfl ss0))), OblS_V (fun vals ex ψ => (by
        refine JL_normQ ⟨21, [(10, _), (11, _), (12, _), (13, _), (14, _), (15, _), (16, _), (17, _), (18, _)], _⟩ (_ :: _ :: _ :: _ :: _ :: _ :: ψ) rfl rfl ?_
        refine JL_indexAddr (i - 1) sl23 rfl rfl rfl (by omega) (by first | exact Reads.view (by repeat (first | with_reducible exact mm0 | refine mmS ?_))) (by rw [rcells_length]; omega) ?_
        exact JL_nil (JE_stepV rfl ss0))), OblS_V (fun vals ex ψ => (by
        refine JL_normQ ⟨21, [(10, _), (11, _), (12, _), (13, _), (14, _), (15, _), (16, _), (17, _), (18, _)], _⟩ (_ :: _ :: _ :: _ :: _ :: _ :: ψ) rfl rfl ?_
        refine JL_loadEA (vs := [_, _, _]) ty30 (Nat.zero_lt_succ _) rfl (by first | exact Reads.view (by repeat (first | with_reducible exact mm0 | refine mmS ?_))) (rcells_getA (by omega)) ?_
        exact JL_nil (JE_stepV rfl ss0))), trivial⟩ (by kernel_rfl) (fun vals bs => ?_)
    refine JL_normL [_, _] ⟨21, [(10, _), (11, _), (12, _), (13, _), (14, _), (15, _), (16, _), (17, _), (18, _)], _⟩ [] [_, _, _, _, _, _] rfl rfl rfl rfl ?_
    refine JL_callF' (Asks.cons (holds_of_mem (by repeat (first | with_reducible exact mm0 | refine mmS ?_))) (Asks.cons (holds_of_mem (by repeat (first | with_reducible exact mm0 | refine mmS ?_))) (Asks.cons (holds_of_mem (by repeat (first | with_reducible exact mm0 | refine mmS ?_))) (Asks.cons (holds_of_mem (by repeat (first | with_reducible exact mm0 | refine mmS ?_))) Asks.nil)))) (rcmpq_con (hxi.mono (by decide)) (hxim1.mono (by decide))) rfl ca31 ⟨rfl, rfl, rfl⟩ ?_
    rintro _ _ ⟨rfl, rfl⟩
    refine JL_gtr rfl rfl ?_
    refine JL_split (fun h20 => ?_) (fun h20 => ?_)
    · refine JL_done_up 21 [] [_, _, _, _, _, _] rfl rfl (by simp only [nrmF]; rfl) rfl rfl ?_
      refine JC_true rfl ?_
      refine JC_seq ?_
      refine JC_region ?_
      refine JL_assign rfl ?_
      refine JL_done_up 21 [] [_, _, _, _, _, _] rfl rfl (by simp only [nrmF]; rfl) rfl rfl ?_
      refine JC_ret ?_
      refine JE_block_ret ?_
      refine JE_then_ret ?_
      refine JE_nextS_ret ?_
      refine JE_block_ret ?_
      refine JE_then_ret ?_
      refine JE_ret (vs := [_]) [] Tryz.results12 ⟨rfl, rfl⟩ ?_ ?_
      · rw [decide_eq_false (p := Falls l) (fun h => by
        have e := h (i - 1) (by omega)
        rw [show i - 1 + 1 = i from by omega] at e
        exact absurd (cmpQ_le.2 e) (by omega))]; exact ⟨rfl, rfl⟩
      · exact all_nil
    · refine JL_done_up 21 [] [_, _, _, _, _, _] rfl rfl (by simp only [nrmF]; rfl) rfl rfl ?_
      refine JC_false rfl ?_
      refine JC_skip ?_
      refine JE_block_normal ?_
      refine JE_then ?_
      refine JC_region ?_
      refine JL_move rfl ?_
      refine JL_add_to rfl rfl (IntWalk.i64_in _ (by omega)) ?_
      refine JL_assign rfl ?_
      refine JL_nil_up 21 [] [_, _, _, _, _, _] rfl rfl (by simp only [nrmF]; rfl) rfl rfl ?_
      refine JE_nextS (i + 1) (by kernel_rfl) ?_ ?_ (by kernel_rfl) ?_
      · exact ⟨by omega, by omega, fun j hj => by
        by_cases h : j + 1 = i
        · have e : j = i - 1 := by omega
          subst e
          rw [show i - 1 + 1 = i from by omega]
          exact cmpQ_le.1 (by omega)
        · exact hf j (by omega)⟩
      · first | omega | (dsimp only; omega)
      · exact subset_app subset_nil (ssS (ssS (ssS (ssS ss0))))
  · refine JL_done_up 21 [] [_, _] rfl rfl (by simp only [nrmF]; rfl) rfl rfl ?_
    refine JC_false rfl ?_
    refine JC_exit ?_
    refine JE_then_exit ?_
    refine JE_nextS_exit ?_
    refine JE_block_exit ?_
    refine JE_then ?_
    refine JC_seq ?_
    refine JC_region ?_
    refine JL_assign rfl ?_
    refine JL_done_up 21 [] [_, _] rfl rfl (by simp only [nrmF]; rfl) rfl rfl ?_
    refine JC_ret ?_
    refine JE_ret (vs := [_]) [] Tryz.results12 ⟨rfl, rfl⟩ ?_ ?_
    · rw [decide_eq_true (p := Falls l) (fun j hj => hf j (by omega))]; exact ⟨rfl, rfl⟩
    · exact all_nil

theorem rcomp_con {adv adw : Option Addr} {cv cw : Nat} {V W : List Int} {ad3 : Option Addr} {c3 : Nat} {l : List Fi} (hl : ∀ x ∈ l, x.ok 4) (hn3 : l.length ≤ 1000000) :
    ConF Tryz.prog 10 [.slice adv V.length cv, .slice adw W.length cw, .slice ad3 l.length c3] [vCells adv (i64s V), vCells adw (i64s W), vCells ad3 (rcells l), vFis l]
      (fun v φo => v = .int .i64 (chkE V W l) ∧ φo = []) := by
  have _ := hn3
  refine ConF_of Tryz.func10 rfl 40 _ rfl rfl ?_
  intro w0
  refine JC_norm ⟨40, [], [_, _, _, _, _, _, _, _, _, _, _, _, _, _, _, _, _, _, _, _, _, _, _, _, _, _, _, _, _, _, _, _, _, _, _, _, _, _, _, _]⟩ [] [_, _, _, _] rfl rfl rfl ?_
  refine JC_seq ?_
  refine JC_region ?_
  refine JL_assign rfl ?_
  refine JL_done_up 40 [] [_, _, _, _] rfl rfl (by simp only [nrmF]; rfl) rfl rfl ?_
  refine JC_seq ?_
  refine JC_region ?_
  refine JL_move rfl ?_
  refine JL_move rfl ?_
  refine JL_callF' (Asks.cons (holds_of_mem (by repeat (first | with_reducible exact mm0 | refine mmS ?_))) (Asks.cons (holds_of_mem (by repeat (first | with_reducible exact mm0 | refine mmS ?_))) Asks.nil)) (rfit_con) rfl ca30 ⟨rfl, rfl, rfl⟩ ?_
  rintro _ _ ⟨ad13, c13, l13, rfl, hl13, rfl⟩
  have hf13 : l13.map (·.q) = fitL V W := hl13.trans (fitL_rfit V W).symm
  refine JL_move rfl ?_
  refine JL_extract rfl rfl ?_
  refine JL_extract rfl rfl ?_
  refine JL_assign rfl ?_
  refine JL_assign rfl ?_
  refine JL_done_up 40 [] [_, _, _, _, _, _] rfl rfl (by simp only [nrmF]; rfl) rfl rfl ?_
  refine JC_seq ?_
  refine JC_seq ?_
  refine JC_region ?_
  refine JL_move rfl ?_
  refine JL_neq rfl rfl ?_
  refine JL_split (fun h17 => ?_) (fun h17 => ?_)
  · refine JL_done_up 40 [] [_, _, _, _, _, _] rfl rfl (by simp only [nrmF]; rfl) rfl rfl ?_
    refine JC_true rfl ?_
    refine JC_seq ?_
    refine JC_region ?_
    refine JL_move rfl ?_
    refine JL_assign rfl ?_
    refine JL_done_up 40 [] [_, _, _, _, _, _] rfl rfl (by simp only [nrmF]; rfl) rfl rfl ?_
    refine JC_ret ?_
    refine JE_then_ret ?_
    refine JE_ret (vs := [_]) [] Tryz.results10 ⟨rfl, rfl⟩ ?_ ?_
    · rw [chkE_chk h17]; exact ⟨rfl, rfl⟩
    · exact all_nil
  · refine JL_done_up 40 [] [_, _, _, _, _, _] rfl rfl (by simp only [nrmF]; rfl) rfl rfl ?_
    refine JC_false rfl ?_
    refine JC_skip ?_
    refine JE_then ?_
    refine JC_seq ?_
    refine JC_seq ?_
    have hz : chk V W = 0 := Classical.byContradiction h17
    obtain ⟨hn, hvw, hok⟩ := chk_zero hz
    have hnf := fes_flen hz hf13
    refine JC_region ?_
    refine JL_move rfl ?_
    refine JL_len sl23 rfl ?_
    refine JL_move rfl ?_
    refine JL_len sl22 rfl ?_
    refine JL_neq rfl rfl ?_
    refine JL_split (fun h23 => ?_) (fun h23 => ?_)
    · refine JL_done_up 40 [] [_, _, _, _, _, _] rfl rfl (by simp only [nrmF]; rfl) rfl rfl ?_
      refine JC_true rfl ?_
      refine JC_seq ?_
      refine JC_region ?_
      refine JL_assign rfl ?_
      refine JL_done_up 40 [] [_, _, _, _, _, _] rfl rfl (by simp only [nrmF]; rfl) rfl rfl ?_
      refine JC_ret ?_
      refine JE_then_ret ?_
      refine JE_ret (vs := [_]) [] Tryz.results10 ⟨rfl, rfl⟩ ?_ ?_
      · rw [chkE_len hz (by omega)]; exact ⟨rfl, rfl⟩
      · exact all_nil
    · refine JL_done_up 40 [] [_, _, _, _, _, _] rfl rfl (by simp only [nrmF]; rfl) rfl rfl ?_
      refine JC_false rfl ?_
      refine JC_skip ?_
      refine JE_then ?_
      refine JC_seq ?_
      refine JC_seq ?_
      refine JC_region ?_
      refine JL_assign rfl ?_
      refine JL_done_up 40 [] [_, _, _, _, _, _] rfl rfl (by simp only [nrmF]; rfl) rfl rfl ?_
      refine JC_block ?_
      refine JC_loopS ((Nat)) (fun (i : Nat) => i ≤ l.length ∧ ∀ j, j < i → lq l j = (fitL V W).getD j 0) (fun (i : Nat) => l.length - i) (fun u (i : Nat) => [none, none, none, none, none, none, some (u 6), none, none, some (.int .i64 (i : Nat)), none, none, none, none, none, none, none, none, none, none, none, none, none, none, some (u 24), some (u 25), some (u 26), some (u 27), some (u 28), some (u 29), some (u 30), some (u 31), some (u 32), some (u 33), some (u 34), some (u 35), some (u 36), some (u 37), some (u 38), some (u 39)]) (fun (i : Nat) => []) (fun (i : Nat) => []) (0) (by kernel_rfl) ?_ (by kernel_rfl) ?_ ?_
      · exact ⟨Nat.zero_le _, fun j hj => absurd hj (Nat.not_lt_zero j)⟩
      · exact subset_nil
      intro u i hC
      obtain ⟨hi, he⟩ := hC
      refine JC_norm ⟨40, [], [_, _, _, _, _, _, _, _, _, _, _, _, _, _, _, _, _, _, _, _, _, _, _, _, _, _, _, _, _, _, _, _, _, _, _, _, _, _, _, _]⟩ [] [_, _, _, _, _, _] rfl rfl rfl ?_
      refine JC_seq ?_
      refine JC_seq ?_
      refine JC_region ?_
      refine JL_move rfl ?_
      refine JL_move rfl ?_
      refine JL_len sl23 rfl ?_
      refine JL_lss rfl rfl ?_
      refine JL_split (fun h27 => ?_) (fun h27 => ?_)
      · refine JL_done_up 40 [] [_, _, _, _, _, _] rfl rfl (by simp only [nrmF]; rfl) rfl rfl ?_
        refine JC_true rfl ?_
        refine JC_skip ?_
        refine JE_then ?_
        refine JC_seq ?_
        refine JC_block ?_
        refine JC_seq ?_
        have hxi := hl _ (fi_mem (l := l) (j := i) (by omega))
        refine JC_fisGet (f := false) (l := l) (l.getD i dI) (by repeat (first | with_reducible exact mm0 | refine mmS ?_)) (fi_mem (by omega)) ?_
        refine JC_fesGet (f := true) (l := l13) (l13.getD i dF) (by repeat (first | with_reducible exact mm0 | refine mmS ?_)) (getD_mem (by omega)) ?_
        refine JC_drawT mixed 8 [spV 30 [] _, spV 31 [] _, spV 32 [0, 1] _, spV 33 [2] _, spV 34 [] _, spV 35 [] _, spV 36 [4, 5] _, spV 37 [6] _] ⟨OblS_V (fun vals ex ψ => (by
            refine JL_normQ ⟨40, [(30, _), (31, _), (32, _), (33, _), (34, _), (35, _), (36, _), (37, _)], _⟩ (_ :: _ :: _ :: _ :: _ :: _ :: _ :: _ :: _ :: _ :: ψ) rfl rfl ?_
            refine JL_move rfl ?_
            exact JL_nil (JE_stepV rfl ss0))), OblS_V (fun vals ex ψ => (by
            refine JL_normQ ⟨40, [(30, _), (31, _), (32, _), (33, _), (34, _), (35, _), (36, _), (37, _)], _⟩ (_ :: _ :: _ :: _ :: _ :: _ :: _ :: _ :: _ :: _ :: ψ) rfl rfl ?_
            refine JL_move rfl ?_
            exact JL_nil (JE_stepV rfl ss0))), OblS_V (fun vals ex ψ => (by
            refine JL_normQ ⟨40, [(30, _), (31, _), (32, _), (33, _), (34, _), (35, _), (36, _), (37, _)], _⟩ (_ :: _ :: _ :: _ :: _ :: _ :: _ :: _ :: _ :: _ :: ψ) rfl rfl ?_
            refine JL_indexAddr i sl23 rfl rfl rfl (by omega) (by first | exact Reads.view (by repeat (first | with_reducible exact mm0 | refine mmS ?_))) (by rw [rcells_length]; omega) ?_
            exact JL_nil (JE_stepV rfl ss0))), OblS_V (fun vals ex ψ => (by
            refine JL_normQ ⟨40, [(30, _), (31, _), (32, _), (33, _), (34, _), (35, _), (36, _), (37, _)], _⟩ (_ :: _ :: _ :: _ :: _ :: _ :: _ :: _ :: _ :: _ :: ψ) rfl rfl ?_
            refine JL_loadEA (vs := [_, _, _]) ty30 (Nat.zero_lt_succ _) rfl (by first | exact Reads.view (by repeat (first | with_reducible exact mm0 | refine mmS ?_))) (rcells_getA (by omega)) ?_
            exact JL_nil (JE_stepV rfl ss0))), OblS_V (fun vals ex ψ => (by
            refine JL_normQ ⟨40, [(30, _), (31, _), (32, _), (33, _), (34, _), (35, _), (36, _), (37, _)], _⟩ (_ :: _ :: _ :: _ :: _ :: _ :: _ :: _ :: _ :: _ :: ψ) rfl rfl ?_
            refine JL_move rfl ?_
            exact JL_nil (JE_stepV rfl ss0))), OblS_V (fun vals ex ψ => (by
            refine JL_normQ ⟨40, [(30, _), (31, _), (32, _), (33, _), (34, _), (35, _), (36, _), (37, _)], _⟩ (_ :: _ :: _ :: _ :: _ :: _ :: _ :: _ :: _ :: _ :: ψ) rfl rfl ?_
            refine JL_move rfl ?_
            exact JL_nil (JE_stepV rfl ss0))), OblS_V (fun vals ex ψ => (by
            refine JL_normQ ⟨40, [(30, _), (31, _), (32, _), (33, _), (34, _), (35, _), (36, _), (37, _)], _⟩ (_ :: _ :: _ :: _ :: _ :: _ :: _ :: _ :: _ :: _ :: ψ) rfl rfl ?_
            refine JL_indexAddr i sl23 rfl rfl rfl (by omega) (by first | exact Reads.view (by repeat (first | with_reducible exact mm0 | refine mmS ?_))) (by rw [fcells_length]; omega) ?_
            exact JL_nil (JE_stepV rfl ss0))), OblS_V (fun vals ex ψ => (by
            refine JL_normQ ⟨40, [(30, _), (31, _), (32, _), (33, _), (34, _), (35, _), (36, _), (37, _)], _⟩ (_ :: _ :: _ :: _ :: _ :: _ :: _ :: _ :: _ :: _ :: ψ) rfl rfl ?_
            refine JL_loadEA (vs := [_, _, _]) ty30 (Nat.zero_lt_succ _) rfl (by first | exact Reads.view (by repeat (first | with_reducible exact mm0 | refine mmS ?_))) (fcells_getA (by omega)) ?_
            exact JL_nil (JE_stepV rfl ss0))), trivial⟩ (by kernel_rfl) (fun vals bs => ?_)
        refine JL_normL [_, _] ⟨40, [(30, _), (31, _), (32, _), (33, _), (34, _), (35, _), (36, _), (37, _)], _⟩ [] [_, _, _, _, _, _, _, _, _, _] rfl rfl rfl rfl ?_
        refine JL_callF' (Asks.cons (holds_of_mem (by repeat (first | with_reducible exact mm0 | refine mmS ?_))) (Asks.cons (holds_of_mem (by repeat (first | with_reducible exact mm0 | refine mmS ?_))) (Asks.cons (holds_of_mem (by repeat (first | with_reducible exact mm0 | refine mmS ?_))) (Asks.cons (holds_of_mem (by repeat (first | with_reducible exact mm0 | refine mmS ?_))) Asks.nil)))) (rcmpq_con (hxi.mono (by decide)) (FIn.some ((fes_fqs hf13 i).mono (by decide)))) rfl ca31 ⟨rfl, rfl, rfl⟩ ?_
        rintro _ _ ⟨rfl, rfl⟩
        refine JL_neq rfl rfl ?_
        refine JL_split (fun h39 => ?_) (fun h39 => ?_)
        · refine JL_done_up 40 [] [_, _, _, _, _, _, _, _, _, _] rfl rfl (by simp only [nrmF]; rfl) rfl rfl ?_
          refine JC_true rfl ?_
          refine JC_seq ?_
          refine JC_region ?_
          refine JL_assign rfl ?_
          refine JL_done_up 40 [] [_, _, _, _, _, _, _, _, _, _] rfl rfl (by simp only [nrmF]; rfl) rfl rfl ?_
          refine JC_ret ?_
          refine JE_block_ret ?_
          refine JE_then_ret ?_
          refine JE_nextS_ret ?_
          refine JE_block_ret ?_
          refine JE_then_ret ?_
          refine JE_ret (vs := [_]) [] Tryz.results10 ⟨rfl, rfl⟩ ?_ ?_
          · rw [chkE_ne hz (by omega) (i := i) (by omega) (fun e => h39 (cmpQ_zero.2 (by rw [fes_fq hf13]; exact e)))]; exact ⟨rfl, rfl⟩
          · exact all_nil
        · refine JL_done_up 40 [] [_, _, _, _, _, _, _, _, _, _] rfl rfl (by simp only [nrmF]; rfl) rfl rfl ?_
          refine JC_false rfl ?_
          refine JC_skip ?_
          refine JE_block_normal ?_
          refine JE_then ?_
          refine JC_region ?_
          refine JL_move rfl ?_
          refine JL_add_to rfl rfl (IntWalk.i64_in _ (by omega)) ?_
          refine JL_assign rfl ?_
          refine JL_nil_up 40 [] [_, _, _, _, _, _, _, _, _, _] rfl rfl (by simp only [nrmF]; rfl) rfl rfl ?_
          refine JE_nextS (i + 1) (by kernel_rfl) ?_ ?_ (by kernel_rfl) ?_
          · exact ⟨by omega, fun j hj => by
            by_cases h : j = i
            · subst h
              have e := cmpQ_zero.1 (Classical.byContradiction h39)
              rw [fes_fq hf13] at e
              exact e
            · exact he j (by omega)⟩
          · first | omega | (dsimp only; omega)
          · exact subset_app subset_nil (ssS (ssS (ssS (ssS ss0))))
      · refine JL_done_up 40 [] [_, _, _, _, _, _] rfl rfl (by simp only [nrmF]; rfl) rfl rfl ?_
        refine JC_false rfl ?_
        refine JC_exit ?_
        refine JE_then_exit ?_
        refine JE_nextS_exit ?_
        refine JE_block_exit ?_
        refine JE_then ?_
        refine JC_seq ?_
        refine JC_region ?_
        refine JL_assign rfl ?_
        refine JL_done_up 40 [] [_, _, _, _, _, _] rfl rfl (by simp only [nrmF]; rfl) rfl rfl ?_
        refine JC_ret ?_
        refine JE_ret (vs := [_]) [] Tryz.results10 ⟨rfl, rfl⟩ ?_ ?_
        · rw [chkE_eq hz (by omega) (fun j hj => he j (by omega))]; exact ⟨rfl, rfl⟩
        · exact all_nil

end Go.Fw.K
