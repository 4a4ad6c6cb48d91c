/- Walks through functions of the given program: each meets its contract. (Printed by a program of this repo.) -/
import Derived.Test.YtgnljjdcbfijnaaDoorF
import Derived.Test.YtgnljjdcbfijnaaDoorFrT
import Derived.Test.YtgnljjdcbfijnaaDoorProg
namespace Go.Fw.S1
open Go Go.RowKit Go.Proofs Go.Nat9 Go.Fw
attribute [local irreducible] JC JL JE
theorem ca22 : callable Tryd.prog 22 = true := by kernel_rfl
theorem ca23 : callable Tryd.prog 23 = true := by kernel_rfl
theorem ca30 : callable Tryd.prog 30 = true := by kernel_rfl
theorem ca31 : callable Tryd.prog 31 = true := by kernel_rfl
theorem fo41_0 : fOf Tryd.prog 41 0 = some 0 := by kernel_rfl
theorem fo41_1 : fOf Tryd.prog 41 1 = some 3 := by kernel_rfl
theorem mixed : Tryd.prog.follows .mixedOrders = true := by kernel_rfl
theorem sl25 : slOf Tryd.prog 25 = some (41, 6, 112, [.bool false, .slice none 0 0, .slice none 0 0, .bool false, .slice none 0 0, .slice none 0 0]) := by kernel_rfl
theorem st41 : stOf Tryd.prog 41 = some ([(0, 3), (3, 3)], [.bool false, .slice none 0 0, .slice none 0 0, .bool false, .slice none 0 0, .slice none 0 0]) := by kernel_rfl
theorem ty35 : tyOf Tryd.prog 35 = some (true, 3) := by kernel_rfl
theorem ty41 : tyOf Tryd.prog 41 = some (true, 6) := by kernel_rfl
theorem z41 : zeroOf Tryd.prog 41 = some [.bool false, .slice none 0 0, .slice none 0 0, .bool false, .slice none 0 0, .slice none 0 0] := by kernel_rfl
end Go.Fw.S1
namespace Go.Fw.K
open Go Go.RowKit Go.Proofs Go.Nat9 Go.Fw Go.Fw.S1
attribute [local irreducible] JC JL JE

theorem iwt_con {w : Int} :
    ConF Tryd.prog 30 [.int .i64 w] []
      (fun v φo => v = .bool (decide (wOk w)) ∧ φo = []) := by
  refine ConF_of Tryd.func30 rfl 9 _ rfl rfl ?_
  intro w0
  refine JC_norm ⟨9, [], [_, _, _, _, _, _, _, _, _]⟩ [] [] rfl rfl rfl ?_
  refine JC_seq ?_
  refine JC_region ?_
  refine JL_assign rfl ?_
  refine JL_done_up 9 [] [] rfl rfl (by simp only [nrmF]; rfl) rfl rfl ?_
  refine JC_seq ?_
  refine JC_region ?_
  refine JL_move rfl ?_
  refine JL_geq rfl rfl ?_
  refine JL_split (fun h4 => ?_) (fun h4 => ?_)
  · refine JL_move rfl ?_
    refine JL_guard_yes rfl rfl ?_
    refine JL_move rfl ?_
    refine JL_guard_yes rfl rfl ?_
    refine JL_leq rfl rfl ?_
    refine JL_split (fun h7 => ?_) (fun h7 => ?_)
    · refine JL_pick_t rfl rfl ?_
      refine JL_assign rfl ?_
      refine JL_done_up 9 [] [] rfl rfl (by simp only [nrmF]; rfl) rfl rfl ?_
      refine JC_ret ?_
      refine JE_ret (vs := [_]) [] Tryd.results30 ⟨rfl, rfl⟩ ?_ ?_
      · rw [decide_eq_true (p := wOk w) ⟨by omega, by omega⟩]; exact ⟨rfl, rfl⟩
      · exact all_nil
    · refine JL_pick_t rfl rfl ?_
      refine JL_assign rfl ?_
      refine JL_done_up 9 [] [] rfl rfl (by simp only [nrmF]; rfl) rfl rfl ?_
      refine JC_ret ?_
      refine JE_ret (vs := [_]) [] Tryd.results30 ⟨rfl, rfl⟩ ?_ ?_
      · rw [decide_eq_false (p := wOk w) (fun h => by obtain ⟨a, b⟩ := h; omega)]; exact ⟨rfl, rfl⟩
      · exact all_nil
  · refine JL_move rfl ?_
    refine JL_guard_no rfl rfl ?_
    refine JL_guard_no rfl rfl ?_
    refine JL_pick_f rfl rfl ?_
    refine JL_assign rfl ?_
    refine JL_done_up 9 [] [] rfl rfl (by simp only [nrmF]; rfl) rfl rfl ?_
    refine JC_ret ?_
    refine JE_ret (vs := [_]) [] Tryd.results30 ⟨rfl, rfl⟩ ?_ ?_
    · rw [decide_eq_false (p := wOk w) (fun h => by obtain ⟨a, b⟩ := h; omega)]; exact ⟨rfl, rfl⟩
    · exact all_nil

theorem ilim_con {tol m : Int} :
    ConF Tryd.prog 31 [.int .i64 tol, .int .i64 m] []
      (fun v φo => v = .int .i64 (limE tol m) ∧ φo = []) := by
  refine ConF_of Tryd.func31 rfl 19 _ rfl rfl ?_
  intro w0
  refine JC_norm ⟨19, [], [_, _, _, _, _, _, _, _, _, _, _, _, _, _, _, _, _, _, _]⟩ [] [] rfl rfl rfl ?_
  refine JC_seq ?_
  refine JC_region ?_
  refine JL_assign rfl ?_
  refine JL_done_up 19 [] [] rfl rfl (by simp only [nrmF]; rfl) rfl rfl ?_
  refine JC_seq ?_
  refine JC_seq ?_
  refine JC_region ?_
  refine JL_move rfl ?_
  refine JL_lss rfl rfl ?_
  refine JL_split (fun h6 => ?_) (fun h6 => ?_)
  · refine JL_move rfl ?_
    refine JL_guard_no rfl rfl ?_
    refine JL_guard_no rfl rfl ?_
    refine JL_pick_t rfl rfl ?_
    refine JL_move rfl ?_
    refine JL_guard_no rfl rfl ?_
    refine JL_guard_no rfl rfl ?_
    refine JL_pick_t rfl rfl ?_
    refine JL_move rfl ?_
    refine JL_guard_no rfl rfl ?_
    refine JL_guard_no rfl rfl ?_
    refine JL_pick_t rfl rfl ?_
    refine JL_done_up 19 [] [] rfl rfl (by simp only [nrmF]; rfl) rfl rfl ?_
    refine JC_true rfl ?_
    refine JC_seq ?_
    refine JC_region ?_
    refine JL_assign rfl ?_
    refine JL_done_up 19 [] [] rfl rfl (by simp only [nrmF]; rfl) rfl rfl ?_
    refine JC_ret ?_
    refine JE_then_ret ?_
    refine JE_ret (vs := [_]) [] Tryd.results31 ⟨rfl, rfl⟩ ?_ ?_
    · rw [limE_no (fun h => by obtain ⟨⟨a, b⟩, c, d⟩ := h; omega)]; exact ⟨rfl, rfl⟩
    · exact all_nil
  · refine JL_move rfl ?_
    refine JL_guard_yes rfl rfl ?_
    refine JL_move rfl ?_
    refine JL_guard_yes rfl rfl ?_
    refine JL_gtr rfl rfl ?_
    refine JL_split (fun h9 => ?_) (fun h9 => ?_)
    · refine JL_pick_f rfl rfl ?_
      refine JL_move rfl ?_
      refine JL_guard_no rfl rfl ?_
      refine JL_guard_no rfl rfl ?_
      refine JL_pick_t rfl rfl ?_
      refine JL_move rfl ?_
      refine JL_guard_no rfl rfl ?_
      refine JL_guard_no rfl rfl ?_
      refine JL_pick_t rfl rfl ?_
      refine JL_done_up 19 [] [] rfl rfl (by simp only [nrmF]; rfl) rfl rfl ?_
      refine JC_true rfl ?_
      refine JC_seq ?_
      refine JC_region ?_
      refine JL_assign rfl ?_
      refine JL_done_up 19 [] [] rfl rfl (by simp only [nrmF]; rfl) rfl rfl ?_
      refine JC_ret ?_
      refine JE_then_ret ?_
      refine JE_ret (vs := [_]) [] Tryd.results31 ⟨rfl, rfl⟩ ?_ ?_
      · rw [limE_no (fun h => by obtain ⟨⟨a, b⟩, c, d⟩ := h; omega)]; exact ⟨rfl, rfl⟩
      · exact all_nil
    · refine JL_pick_f rfl rfl ?_
      refine JL_move rfl ?_
      refine JL_guard_yes rfl rfl ?_
      refine JL_move rfl ?_
      refine JL_guard_yes rfl rfl ?_
      refine JL_lss rfl rfl ?_
      refine JL_split (fun h13 => ?_) (fun h13 => ?_)
      · refine JL_pick_f rfl rfl ?_
        refine JL_move rfl ?_
        refine JL_guard_no rfl rfl ?_
        refine JL_guard_no rfl rfl ?_
        refine JL_pick_t rfl rfl ?_
        refine JL_done_up 19 [] [] rfl rfl (by simp only [nrmF]; rfl) rfl rfl ?_
        refine JC_true rfl ?_
        refine JC_seq ?_
        refine JC_region ?_
        refine JL_assign rfl ?_
        refine JL_done_up 19 [] [] rfl rfl (by simp only [nrmF]; rfl) rfl rfl ?_
        refine JC_ret ?_
        refine JE_then_ret ?_
        refine JE_ret (vs := [_]) [] Tryd.results31 ⟨rfl, rfl⟩ ?_ ?_
        · rw [limE_no (fun h => by obtain ⟨⟨a, b⟩, c, d⟩ := h; omega)]; exact ⟨rfl, rfl⟩
        · exact all_nil
      · refine JL_pick_f rfl rfl ?_
        refine JL_move rfl ?_
        refine JL_guard_yes rfl rfl ?_
        refine JL_move rfl ?_
        refine JL_guard_yes rfl rfl ?_
        refine JL_gtr rfl rfl ?_
        refine JL_split (fun h17 => ?_) (fun h17 => ?_)
        · refine JL_pick_f rfl rfl ?_
          refine JL_done_up 19 [] [] rfl rfl (by simp only [nrmF]; rfl) rfl rfl ?_
          refine JC_true rfl ?_
          refine JC_seq ?_
          refine JC_region ?_
          refine JL_assign rfl ?_
          refine JL_done_up 19 [] [] rfl rfl (by simp only [nrmF]; rfl) rfl rfl ?_
          refine JC_ret ?_
          refine JE_then_ret ?_
          refine JE_ret (vs := [_]) [] Tryd.results31 ⟨rfl, rfl⟩ ?_ ?_
          · rw [limE_no (fun h => by obtain ⟨⟨a, b⟩, c, d⟩ := h; omega)]; exact ⟨rfl, rfl⟩
          · exact all_nil
        · refine JL_pick_f rfl rfl ?_
          refine JL_done_up 19 [] [] rfl rfl (by simp only [nrmF]; rfl) rfl rfl ?_
          refine JC_false rfl ?_
          refine JC_skip ?_
          refine JE_then ?_
          refine JC_seq ?_
          refine JC_region ?_
          refine JL_assign rfl ?_
          refine JL_done_up 19 [] [] rfl rfl (by simp only [nrmF]; rfl) rfl rfl ?_
          refine JC_ret ?_
          refine JE_ret (vs := [_]) [] Tryd.results31 ⟨rfl, rfl⟩ ?_ ?_
          · rw [limE_ok ⟨⟨by omega, by omega⟩, by omega, by omega⟩]; exact ⟨rfl, rfl⟩
          · exact all_nil

set_option maxHeartbeats 1000000 in
theorem ispans_con {w tol m : Int} :
    ConF Tryd.prog 10 [.int .i64 w, .int .i64 tol, .int .i64 m] []
      (SPS (spL w tol m) (spE w tol m)) := by
  refine ConF_of Tryd.func10 rfl 67 _ rfl rfl ?_
  intro w0
  refine JC_norm ⟨67, [], [_, _, _, _, _, _, _, _, _, _, _, _, _, _, _, _, _, _, _, _, _, _, _, _, _, _, _, _, _, _, _, _, _, _, _, _, _, _, _, _, _, _, _, _, _, _, _, _, _, _, _, _, _, _, _, _, _, _, _, _, _, _, _, _, _, _, _]⟩ [] [] rfl rfl rfl ?_
  refine JC_seq ?_
  refine JC_region ?_
  refine JL_assign rfl ?_
  refine JL_assign rfl ?_
  refine JL_done_up 67 [] [] rfl rfl (by simp only [nrmF]; rfl) rfl rfl ?_
  refine JC_seq ?_
  refine JC_seq ?_
  refine JC_region ?_
  refine JL_move rfl ?_
  refine JL_callF' Asks.nil (iwt_con) rfl ca30 ⟨rfl, rfl⟩ ?_
  rintro _ _ ⟨rfl, rfl⟩
  refine JL_split (fun h14 => ?_) (fun h14 => ?_)
  · refine JL_not rfl ?_
    rw [Bool.not_true]
    refine JL_done_up 67 [] [] rfl rfl (by simp only [nrmF]; rfl) rfl rfl ?_
    refine JC_false rfl ?_
    refine JC_skip ?_
    refine JE_then ?_
    refine JC_seq ?_
    refine JC_seq ?_
    refine JC_region ?_
    refine JL_move rfl ?_
    refine JL_move rfl ?_
    refine JL_callF' Asks.nil (ilim_con) rfl ca31 ⟨rfl, rfl, rfl⟩ ?_
    rintro _ _ ⟨rfl, rfl⟩
    refine JL_assign rfl ?_
    refine JL_done_up 67 [] [] rfl rfl (by simp only [nrmF]; rfl) rfl rfl ?_
    refine JC_seq ?_
    refine JC_region ?_
    refine JL_move rfl ?_
    refine JL_neq rfl rfl ?_
    refine JL_split (fun h20 => ?_) (fun h20 => ?_)
    · refine JL_done_up 67 [] [] rfl rfl (by simp only [nrmF]; rfl) rfl rfl ?_
      refine JC_true rfl ?_
      refine JC_seq ?_
      refine JC_region ?_
      refine JL_move rfl ?_
      refine JL_assign rfl ?_
      refine JL_assign rfl ?_
      refine JL_done_up 67 [] [] rfl rfl (by simp only [nrmF]; rfl) rfl rfl ?_
      refine JC_ret ?_
      refine JE_then_ret ?_
      refine JE_sesNil ?_
      refine JE_ret (vs := [_, _]) [vCells none (scells []), vSes []] Tryd.results10 ⟨rfl, rfl, rfl⟩ ?_ ?_
      · rw [spL_no (by rw [spE_lim h14]; exact h20), spE_lim h14]; exact ⟨none, 0, [], rfl, rfl, rfl⟩
      · exact (all_cons (by repeat (first | with_reducible exact mm0 | refine mmS ?_)) (all_cons (by repeat (first | with_reducible exact mm0 | refine mmS ?_)) all_nil))
    · refine JL_done_up 67 [] [] rfl rfl (by simp only [nrmF]; rfl) rfl rfl ?_
      refine JC_false rfl ?_
      refine JC_skip ?_
      refine JE_then ?_
      refine JC_seq ?_
      have hlim : limOk tol m := limE_zero.1 (Classical.byContradiction h20)
      have hlim2 := hlim
      obtain ⟨⟨hl1, hl2⟩, hl3, hl4⟩ := hlim2
      have hwt2 := h14
      obtain ⟨hw1, hw2⟩ := hwt2
      refine JC_region ?_
      refine JL_assign rfl ?_
      refine JL_done_up 67 [] [] rfl rfl (by simp only [nrmF]; rfl) rfl rfl ?_
      refine JC_seq ?_
      refine JC_seq ?_
      refine JC_region ?_
      refine JL_move rfl ?_
      refine JL_assign rfl ?_
      refine JL_done_up 67 [] [] rfl rfl (by simp only [nrmF]; rfl) rfl rfl ?_
      refine JC_block ?_
      refine JC_sesNil ?_
      refine JC_addNil 41 6 ?_
      refine JC_norm ⟨67, [], [_, _, _, _, _, _, _, _, _, _, _, _, _, _, _, _, _, _, _, _, _, _, _, _, _, _, _, _, _, _, _, _, _, _, _, _, _, _, _, _, _, _, _, _, _, _, _, _, _, _, _, _, _, _, _, _, _, _, _, _, _, _, _, _, _, _, _]⟩ [osl _ _ _ _ _ _] [_] rfl rfl rfl ?_
      refine JC_loopS ((Nat) × (List Se) × (Option Addr) × (Nat) × (Nat) × (Int)) (fun (i, l, ad, cap, n, kk) => i ≤ m.toNat ∧ kk = m - (i : Int) ∧ l.map Se.qq = spR w tol m i ∧ l.length = n) (fun (i, l, ad, cap, n, kk) => m.toNat - i) (fun u (i, l, ad, cap, n, kk) => [none, none, none, none, none, none, none, none, none, some (.slice ad n cap), some (.int .i64 kk), some (u 11), some (u 12), none, none, none, none, none, none, none, none, none, none, some (u 23), some (u 24), some (u 25), some (u 26), some (u 27), some (u 28), some (u 29), some (u 30), some (u 31), some (u 32), some (u 33), some (u 34), some (u 35), some (u 36), some (u 37), some (u 38), some (u 39), some (u 40), some (u 41), some (u 42), some (u 43), some (u 44), some (u 45), some (u 46), some (u 47), some (u 48), some (u 49), some (u 50), some (u 51), some (u 52), some (u 53), some (u 54), some (u 55), some (u 56), some (u 57), some (u 58), some (u 59), some (u 60), some (u 61), some (u 62), some (u 63), some (u 64), some (u 65), none]) (fun (i, l, ad, cap, n, kk) => [some (osl ad n cap 41 6 (scells l))]) (fun (i, l, ad, cap, n, kk) => [(true, vSes l)]) (0, [], none, 0, 0, m) (by kernel_rfl) ?_ (by kernel_rfl) ?_ ?_
      · exact ⟨Nat.zero_le _, by omega, rfl, rfl⟩
      · exact (subset_cons (by repeat (first | with_reducible exact mm0 | refine mmS ?_)) subset_nil)
      intro u i hC
      obtain ⟨i, l, ad, cap, n, kk⟩ := i
      obtain ⟨hi, hkk, hl, hn⟩ := hC
      refine JC_norm ⟨67, [], [_, _, _, _, _, _, _, _, _, _, _, _, _, _, _, _, _, _, _, _, _, _, _, _, _, _, _, _, _, _, _, _, _, _, _, _, _, _, _, _, _, _, _, _, _, _, _, _, _, _, _, _, _, _, _, _, _, _, _, _, _, _, _, _, _, _, _]⟩ [osl _ _ _ _ _ _] [_, _] rfl rfl rfl ?_
      refine JC_seq ?_
      refine JC_seq ?_
      refine JC_region ?_
      refine JL_move rfl ?_
      refine JL_geq rfl rfl ?_
      refine JL_split (fun h24 => ?_) (fun h24 => ?_)
      · refine JL_done_up 67 [osl _ _ _ _ _ _] [_, _] rfl rfl (by simp only [nrmF]; rfl) rfl rfl ?_
        refine JC_true rfl ?_
        refine JC_skip ?_
        refine JE_then ?_
        refine JC_seq ?_
        refine JC_block ?_
        refine JC_seq ?_
        have hmx := mxo_in (a := w - tol) (b := 200000) (by omega) (by omega)
        have hqlo : qs (slo w tol kk) 3 := qs_slo h14 hl1 ⟨by omega, by omega⟩
        have hqhi : qs (shi w tol kk) 3 := qs_shi h14 ⟨hl1, hl2⟩ ⟨by omega, by omega⟩
        have hQ := qs_spR h14 hlim (i := i) (by omega)
        have hnl := spR_len w tol m i
        rw [← hl, List.length_map] at hnl
        refine JC_region ?_
        refine JL_move rfl ?_
        refine JL_move rfl ?_
        refine JL_sub_to rfl rfl (IntWalk.i64_in _ (by omega)) ?_
        refine JL_max rfl rfl ?_
        rw [show (if w - tol < 1 then (1 : Int) else w - tol) = mxo (w - tol) from rfl]
        refine JL_move rfl ?_
        refine JL_callF' Asks.nil (fofi_con (mxo (w - tol)) kk (by omega) (by omega)) rfl ca22 ⟨rfl, rfl, rfl⟩ ?_
        rintro _ _ ⟨ad32, cp32, be32, ce32, rfl, rfl⟩
        rw [show ofq (mxo (w - tol)) kk = slo w tol kk from rfl]
        refine JL_move rfl ?_
        refine JL_move rfl ?_
        refine JL_add_to rfl rfl (IntWalk.i64_in _ (by omega)) ?_
        refine JL_move rfl ?_
        refine JL_callF' Asks.nil (fofi_con (w + tol) kk (by omega) (by omega)) rfl ca22 ⟨rfl, rfl, rfl⟩ ?_
        rintro _ _ ⟨ad37, cp37, be37, ce37, rfl, rfl⟩
        rw [show ofq (w + tol) kk = shi w tol kk from rfl]
        refine JL_build (cs := [_, _, _, _, _, _]) [(0, [_, _, _]), (1, [_, _, _])] st41 ⟨⟨rfl, _, rfl, rfl⟩, ⟨rfl, _, rfl, rfl⟩, rfl⟩ rfl ?_
        refine JL_alloc z41 (fun b11 => ?_)
        refine JL_store (vs := [_, _, _, _, _, _]) 1 ty41 rfl rfl rfl (AllOne.cons rfl (AllOne.cons rfl (AllOne.cons rfl (AllOne.cons rfl (AllOne.cons rfl (AllOne.cons rfl AllOne.nil)))))) rfl (Nat.le_of_ble_eq_true rfl) ?_
        refine JL_done_up 67 [osl _ _ _ _ _ _, box _ _ [_, _, _, _, _, _]] [_, _, _, _, _, _] rfl rfl (by simp only [nrmF]; rfl) rfl rfl ?_
        refine JC_seq ?_
        refine JC_region ?_
        refine JL_move rfl ?_
        refine JL_len sl25 rfl ?_
        refine JL_assign rfl ?_
        refine JL_done_up 67 [osl _ _ _ _ _ _, box _ _ [_, _, _, _, _, _]] [_, _, _, _, _, _] rfl rfl (by simp only [nrmF]; rfl) rfl rfl ?_
        refine JC_seq ?_
        rcases Nat.eq_zero_or_pos n with h0 | h0
        · refine JC_drawT mixed 11 [spV 41 [] _, spV 42 [0] _, spV 43 [1] _, spV 44 [2] _, spV 45 [2, 3] _, spV 46 [2] _, spV 47 [2] _, spV 48 [2, 6] _, spV 49 [2, 5, 7] _, spV 50 [2, 8] _, spV 51 [2, 9] _] ⟨OblS_V (fun vals ex ψ => (by
              refine JL_normQ ⟨67, [(41, _), (42, _), (43, _), (44, _), (45, _), (46, _), (47, _), (48, _), (49, _), (50, _), (51, _)], _⟩ (_ :: _ :: _ :: _ :: _ :: _ :: ψ) rfl rfl ?_
              refine JL_move rfl ?_
              exact JL_nil (JE_stepV rfl ss0))), OblS_V (fun vals ex ψ => (by
              refine JL_normQ ⟨67, [(41, _), (42, _), (43, _), (44, _), (45, _), (46, _), (47, _), (48, _), (49, _), (50, _), (51, _)], _⟩ (_ :: _ :: _ :: _ :: _ :: _ :: ψ) rfl rfl ?_
              refine JL_gtr rfl rfl ?_
              rw [decide_eq_false (by omega)]
              exact JL_nil (JE_stepV rfl ss0))), OblS_V (fun vals ex ψ => (by
              refine JL_normQ ⟨67, [(41, _), (42, _), (43, _), (44, _), (45, _), (46, _), (47, _), (48, _), (49, _), (50, _), (51, _)], _⟩ (_ :: _ :: _ :: _ :: _ :: _ :: ψ) rfl rfl ?_
              refine JL_move rfl ?_
              exact JL_nil (JE_stepV rfl ss0))), OblS_V (fun vals ex ψ => (by
              refine JL_normQ ⟨67, [(41, _), (42, _), (43, _), (44, _), (45, _), (46, _), (47, _), (48, _), (49, _), (50, _), (51, _)], _⟩ (_ :: _ :: _ :: _ :: _ :: _ :: ψ) rfl rfl ?_
              refine JL_guard_no rfl rfl ?_
              exact JL_nil (JE_stepV rfl ss0))), OblS_V (fun vals ex ψ => (by
              refine JL_normQ ⟨67, [(41, _), (42, _), (43, _), (44, _), (45, _), (46, _), (47, _), (48, _), (49, _), (50, _), (51, _)], _⟩ (_ :: _ :: _ :: _ :: _ :: _ :: ψ) rfl rfl ?_
              refine JL_guard_no rfl rfl ?_
              exact JL_nil (JE_stepV rfl ss0))), OblS_V (fun vals ex ψ => (by
              refine JL_normQ ⟨67, [(41, _), (42, _), (43, _), (44, _), (45, _), (46, _), (47, _), (48, _), (49, _), (50, _), (51, _)], _⟩ (_ :: _ :: _ :: _ :: _ :: _ :: ψ) rfl rfl ?_
              refine JL_guard_no rfl rfl ?_
              exact JL_nil (JE_stepV rfl ss0))), OblS_V (fun vals ex ψ => (by
              refine JL_normQ ⟨67, [(41, _), (42, _), (43, _), (44, _), (45, _), (46, _), (47, _), (48, _), (49, _), (50, _), (51, _)], _⟩ (_ :: _ :: _ :: _ :: _ :: _ :: ψ) rfl rfl ?_
              refine JL_guard_no rfl rfl ?_
              exact JL_nil (JE_stepV rfl ss0))), OblS_V (fun vals ex ψ => (by
              refine JL_normQ ⟨67, [(41, _), (42, _), (43, _), (44, _), (45, _), (46, _), (47, _), (48, _), (49, _), (50, _), (51, _)], _⟩ (_ :: _ :: _ :: _ :: _ :: _ :: ψ) rfl rfl ?_
              refine JL_guard_no rfl rfl ?_
              exact JL_nil (JE_stepV rfl ss0))), OblS_V (fun vals ex ψ => (by
              refine JL_normQ ⟨67, [(41, _), (42, _), (43, _), (44, _), (45, _), (46, _), (47, _), (48, _), (49, _), (50, _), (51, _)], _⟩ (_ :: _ :: _ :: _ :: _ :: _ :: ψ) rfl rfl ?_
              refine JL_guard_no rfl rfl ?_
              exact JL_nil (JE_stepV rfl ss0))), OblS_V (fun vals ex ψ => (by
              refine JL_normQ ⟨67, [(41, _), (42, _), (43, _), (44, _), (45, _), (46, _), (47, _), (48, _), (49, _), (50, _), (51, _)], _⟩ (_ :: _ :: _ :: _ :: _ :: _ :: ψ) rfl rfl ?_
              refine JL_guard_no rfl rfl ?_
              exact JL_nil (JE_stepV rfl ss0))), OblS_V (fun vals ex ψ => (by
              refine JL_normQ ⟨67, [(41, _), (42, _), (43, _), (44, _), (45, _), (46, _), (47, _), (48, _), (49, _), (50, _), (51, _)], _⟩ (_ :: _ :: _ :: _ :: _ :: _ :: ψ) rfl rfl ?_
              refine JL_guard_no rfl rfl ?_
              exact JL_nil (JE_stepV rfl ss0))), trivial⟩ (by kernel_rfl) (fun vals bs => ?_)
          refine JL_normL [_, _, _] ⟨67, [(41, _), (42, _), (43, _), (44, _), (45, _), (46, _), (47, _), (48, _), (49, _), (50, _), (51, _)], _⟩ [osl _ _ _ _ _ _, box _ _ [_, _, _, _, _, _]] [_, _, _, _, _, _] rfl rfl rfl rfl ?_
          refine JL_guard_no rfl rfl ?_
          refine JL_guard_no rfl rfl ?_
          refine JL_pick_f rfl rfl ?_
          refine JL_done_up 67 [osl _ _ _ _ _ _, box _ _ [_, _, _, _, _, _]] [_, _, _, _, _, _] rfl rfl (by simp only [nrmF]; rfl) rfl rfl ?_
          refine JC_false rfl ?_
          refine JC_region ?_
          refine JL_move rfl ?_
          refine JL_loadA (vs := [_, _, _, _, _, _]) 1 ty41 rfl rfl ⟨rfl, rfl, rfl, rfl, rfl, rfl, trivial⟩ ?_
          refine JL_buildN (cs0 := [.bool false, .slice none 0 0, .slice none 0 0, .bool false, .slice none 0 0, .slice none 0 0]) (cs := [_, _, _, _, _, _]) [(0, [_, _, _, _, _, _])] sl25 (by kernel_rfl) ⟨⟨rfl, _, rfl, rfl⟩, rfl⟩ rfl rfl rfl rfl (fun g64 => ?_)
          refine JL_append (news := [_, _, _, _, _, _]) 0 sl25 rfl (by decide) rfl rfl rfl rfl (Reads.own 2 rfl) (AllOne.cons rfl (AllOne.cons rfl (AllOne.cons rfl (AllOne.cons rfl (AllOne.cons rfl (AllOne.cons rfl AllOne.nil)))))) (by omega) (by omega) (fun ad65 cap65 hc65 => ?_)
          refine JL_dropAt 2 ?_
          refine JL_norm _ [osl _ _ _ _ _ _, box _ _ [_, _, _, _, _, _]] [_, _, _, _, _, _] rfl rfl rfl ?_
          rw [show scells l ++ sc ⟨⟨ad32, cp32, be32, ce32, slo w tol kk⟩, ⟨ad37, cp37, be37, ce37, shi w tol kk⟩⟩ = scells (l ++ [⟨⟨ad32, cp32, be32, ce32, slo w tol kk⟩, ⟨ad37, cp37, be37, ce37, shi w tol kk⟩⟩]) from scells_snoc l _]
          refine JL_sesSnoc (f := true) (l := l) ⟨⟨ad32, cp32, be32, ce32, slo w tol kk⟩, ⟨ad37, cp37, be37, ce37, shi w tol kk⟩⟩ (by repeat (first | with_reducible exact mm0 | refine mmS ?_)) (by repeat (first | with_reducible exact mm0 | refine mmS ?_)) (by repeat (first | with_reducible exact mm0 | refine mmS ?_)) (by repeat (first | with_reducible exact mm0 | refine mmS ?_)) (by repeat (first | with_reducible exact mm0 | refine mmS ?_)) ?_
          refine JL_assign rfl ?_
          refine JL_nil_up 67 [osl _ _ _ _ _ _, box _ _ [_, _, _, _, _, _]] [_, _, _, _, _, _, _] rfl rfl (by simp only [nrmF]; rfl) rfl rfl ?_
          refine JE_block_normal ?_
          refine JE_then ?_
          refine JC_region ?_
          refine JL_move rfl ?_
          refine JL_sub_to rfl rfl (IntWalk.i64_in _ (by omega)) ?_
          refine JL_assign rfl ?_
          refine JL_nil_up 67 [osl _ _ _ _ _ _, box _ _ [_, _, _, _, _, _]] [_, _, _, _, _, _, _] rfl rfl (by simp only [nrmF]; rfl) rfl rfl ?_
          refine JE_dropAt 1 ?_
          refine JE_norm _ [osl _ _ _ _ _ _] [_, _, _, _, _, _, _] rfl rfl rfl ?_
          refine JE_nextS (i + 1, l ++ [⟨⟨ad32, cp32, be32, ce32, slo w tol kk⟩, ⟨ad37, cp37, be37, ce37, shi w tol kk⟩⟩], ad65, cap65, n + 1, kk - 1) (by kernel_rfl) ?_ ?_ (by kernel_rfl) ?_
          · exact ⟨by omega, by omega, by rw [spR, ← hkk, ← hl, sstep_new (by rw [List.length_map]; omega), List.map_append]; rfl, by rw [List.length_append, hn]; rfl⟩
          · first | omega | (dsimp only; omega)
          · exact subset_app (subset_cons (by repeat (first | with_reducible exact mm0 | refine mmS ?_)) subset_nil) (ssS (ssS (ssS (ssS (ssS (ssS ss0))))))
        · have hql := (se_qs hl hQ (n - 1)).2
          refine JC_sesGet (f := true) (l := l) (l.getD (n - 1) dS) (by repeat (first | with_reducible exact mm0 | refine mmS ?_)) (se_mem (by omega)) ?_
          refine JC_drawT mixed 11 [spV 41 [] _, spV 42 [0] _, spV 43 [1] _, spV 44 [2] _, spV 45 [2, 3] _, spV 46 [2] _, spV 47 [2] _, spV 48 [2, 6] _, spV 49 [2, 5, 7] _, spV 50 [2, 8] _, spV 51 [2, 9] _] ⟨OblS_V (fun vals ex ψ => (by
              refine JL_normQ ⟨67, [(41, _), (42, _), (43, _), (44, _), (45, _), (46, _), (47, _), (48, _), (49, _), (50, _), (51, _)], _⟩ (_ :: _ :: _ :: _ :: _ :: _ :: _ :: _ :: _ :: _ :: ψ) rfl rfl ?_
              refine JL_move rfl ?_
              exact JL_nil (JE_stepV rfl ss0))), OblS_V (fun vals ex ψ => (by
              refine JL_normQ ⟨67, [(41, _), (42, _), (43, _), (44, _), (45, _), (46, _), (47, _), (48, _), (49, _), (50, _), (51, _)], _⟩ (_ :: _ :: _ :: _ :: _ :: _ :: _ :: _ :: _ :: _ :: ψ) rfl rfl ?_
              refine JL_gtr rfl rfl ?_
              rw [decide_eq_true (by omega)]
              exact JL_nil (JE_stepV rfl ss0))), OblS_V (fun vals ex ψ => (by
              refine JL_normQ ⟨67, [(41, _), (42, _), (43, _), (44, _), (45, _), (46, _), (47, _), (48, _), (49, _), (50, _), (51, _)], _⟩ (_ :: _ :: _ :: _ :: _ :: _ :: _ :: _ :: _ :: _ :: ψ) rfl rfl ?_
              refine JL_move rfl ?_
              exact JL_nil (JE_stepV rfl ss0))), OblS_V (fun vals ex ψ => (by
              refine JL_normQ ⟨67, [(41, _), (42, _), (43, _), (44, _), (45, _), (46, _), (47, _), (48, _), (49, _), (50, _), (51, _)], _⟩ (_ :: _ :: _ :: _ :: _ :: _ :: _ :: _ :: _ :: _ :: ψ) rfl rfl ?_
              refine JL_guard_yes rfl rfl ?_
              refine JL_fieldAddr fo41_0 rfl ?_
              exact JL_nil (JE_stepV rfl ss0))), OblS_V (fun vals ex ψ => (by
              refine JL_normQ ⟨67, [(41, _), (42, _), (43, _), (44, _), (45, _), (46, _), (47, _), (48, _), (49, _), (50, _), (51, _)], _⟩ (_ :: _ :: _ :: _ :: _ :: _ :: _ :: _ :: _ :: _ :: ψ) rfl rfl ?_
              refine JL_guard_yes rfl rfl ?_
              refine JL_loadA (vs := [_, _, _]) 1 ty35 rfl rfl ⟨rfl, rfl, rfl, trivial⟩ ?_
              exact JL_nil (JE_stepV rfl ss0))), OblS_V (fun vals ex ψ => (by
              refine JL_normQ ⟨67, [(41, _), (42, _), (43, _), (44, _), (45, _), (46, _), (47, _), (48, _), (49, _), (50, _), (51, _)], _⟩ (_ :: _ :: _ :: _ :: _ :: _ :: _ :: _ :: _ :: _ :: ψ) rfl rfl ?_
              refine JL_guard_yes rfl rfl ?_
              refine JL_move rfl ?_
              exact JL_nil (JE_stepV rfl ss0))), OblS_V (fun vals ex ψ => (by
              refine JL_normQ ⟨67, [(41, _), (42, _), (43, _), (44, _), (45, _), (46, _), (47, _), (48, _), (49, _), (50, _), (51, _)], _⟩ (_ :: _ :: _ :: _ :: _ :: _ :: _ :: _ :: _ :: _ :: ψ) rfl rfl ?_
              refine JL_guard_yes rfl rfl ?_
              refine JL_move rfl ?_
              exact JL_nil (JE_stepV rfl ss0))), OblS_V (fun vals ex ψ => (by
              refine JL_normQ ⟨67, [(41, _), (42, _), (43, _), (44, _), (45, _), (46, _), (47, _), (48, _), (49, _), (50, _), (51, _)], _⟩ (_ :: _ :: _ :: _ :: _ :: _ :: _ :: _ :: _ :: _ :: ψ) rfl rfl ?_
              refine JL_guard_yes rfl rfl ?_
              refine JL_sub_to rfl rfl (IntWalk.i64_in _ (by omega)) ?_
              exact JL_nil (JE_stepV rfl ss0))), OblS_V (fun vals ex ψ => (by
              refine JL_normQ ⟨67, [(41, _), (42, _), (43, _), (44, _), (45, _), (46, _), (47, _), (48, _), (49, _), (50, _), (51, _)], _⟩ (_ :: _ :: _ :: _ :: _ :: _ :: _ :: _ :: _ :: _ :: ψ) rfl rfl ?_
              refine JL_guard_yes rfl rfl ?_
              refine JL_indexAddr (n - 1) sl25 rfl rfl (by omega) (by omega) (Reads.own 0 rfl) (by rw [scells_length]; omega) ?_
              exact JL_nil (JE_stepV rfl ss0))), OblS_V (fun vals ex ψ => (by
              refine JL_normQ ⟨67, [(41, _), (42, _), (43, _), (44, _), (45, _), (46, _), (47, _), (48, _), (49, _), (50, _), (51, _)], _⟩ (_ :: _ :: _ :: _ :: _ :: _ :: _ :: _ :: _ :: _ :: ψ) rfl rfl ?_
              refine JL_guard_yes rfl rfl ?_
              refine JL_fieldAddrE fo41_1 rfl (Reads.own 0 rfl) (by rw [scells_length]; omega) ?_
              exact JL_nil (JE_stepV rfl ss0))), OblS_V (fun vals ex ψ => (by
              refine JL_normQ ⟨67, [(41, _), (42, _), (43, _), (44, _), (45, _), (46, _), (47, _), (48, _), (49, _), (50, _), (51, _)], _⟩ (_ :: _ :: _ :: _ :: _ :: _ :: _ :: _ :: _ :: _ :: ψ) rfl rfl ?_
              refine JL_guard_yes rfl rfl ?_
              refine JL_loadEA (vs := [_, _, _]) ty35 (Nat.zero_lt_succ _) rfl (Reads.own 0 rfl) (scells_hiA (by omega)) ?_
              exact JL_nil (JE_stepV rfl ss0))), trivial⟩ (by kernel_rfl) (fun vals bs => ?_)
          refine JL_normL [_, _, _] ⟨67, [(41, _), (42, _), (43, _), (44, _), (45, _), (46, _), (47, _), (48, _), (49, _), (50, _), (51, _)], _⟩ [osl _ _ _ _ _ _, box _ _ [_, _, _, _, _, _]] [_, _, _, _, _, _, _, _, _, _] rfl rfl rfl rfl ?_
          refine JL_guard_yes rfl rfl ?_
          refine JL_callF' (Asks.cons (by first | exact holds_of_mem (by repeat (first | with_reducible exact mm0 | refine mmS ?_)) | (exact holds_of_own 0 rfl)) (Asks.cons (by first | exact holds_of_mem (by repeat (first | with_reducible exact mm0 | refine mmS ?_)) | (exact holds_of_own 0 rfl)) (Asks.cons (by first | exact holds_of_mem (by repeat (first | with_reducible exact mm0 | refine mmS ?_)) | (exact holds_of_own 0 rfl)) (Asks.cons (by first | exact holds_of_mem (by repeat (first | with_reducible exact mm0 | refine mmS ?_)) | (exact holds_of_own 0 rfl)) Asks.nil)))) (fcmpq_con (FIn.some (hqlo.mono (by decide))) (FIn.some (hql.mono (by decide)))) rfl ca23 ⟨rfl, rfl, rfl⟩ ?_
          rintro _ _ ⟨rfl, rfl⟩
          refine JL_guard_yes rfl rfl ?_
          refine JL_leq rfl rfl ?_
          refine JL_split (fun h53 => ?_) (fun h53 => ?_)
          · refine JL_pick_t rfl rfl ?_
            refine JL_done_up 67 [osl _ _ _ _ _ _, box _ _ [_, _, _, _, _, _]] [_, _, _, _, _, _, _, _, _, _] rfl rfl (by simp only [nrmF]; rfl) rfl rfl ?_
            refine JC_true rfl ?_
            refine JC_region ?_
            refine JL_move rfl ?_
            refine JL_move rfl ?_
            refine JL_sub_to rfl rfl (IntWalk.i64_in _ (by omega)) ?_
            refine JL_fieldAddr fo41_1 rfl ?_
            refine JL_loadA (vs := [_, _, _]) 1 ty35 rfl rfl ⟨rfl, rfl, rfl, trivial⟩ ?_
            refine JL_indexAddr (n - 1) sl25 rfl rfl (by omega) (by omega) (Reads.own 0 rfl) (by rw [scells_length]; omega) ?_
            refine JL_fieldAddrE fo41_1 rfl (Reads.own 0 rfl) (by rw [scells_length]; omega) ?_
            refine JL_storeE (vs := [_, _, _]) 0 ty35 (Nat.zero_lt_succ _) rfl rfl rfl (AllOne.cons rfl (AllOne.cons rfl (AllOne.cons rfl AllOne.nil))) rfl (by rw [scells_length]; simp only [List.length_cons, List.length_nil]; omega) ?_
            rw [show setAll (scells l) ((n - 1) * 6 + 3) (fc ⟨ad37, cp37, be37, ce37, shi w tol kk⟩) = scells (setHi l (n - 1) ⟨ad37, cp37, be37, ce37, shi w tol kk⟩) from scells_setHi _ _ _ (by omega)]
            refine JL_sesSet (f := true) (l := l) (j := n - 1) (by omega) ⟨ad37, cp37, be37, ce37, shi w tol kk⟩ (by repeat (first | with_reducible exact mm0 | refine mmS ?_)) (by repeat (first | with_reducible exact mm0 | refine mmS ?_)) (by repeat (first | with_reducible exact mm0 | refine mmS ?_)) ?_
            refine JL_nil_up 67 [osl _ _ _ _ _ _, box _ _ [_, _, _, _, _, _]] [_, _, _, _, _, _, _, _, _, _, _] rfl rfl (by simp only [nrmF]; rfl) rfl rfl ?_
            refine JE_block_normal ?_
            refine JE_then ?_
            refine JC_region ?_
            refine JL_move rfl ?_
            refine JL_sub_to rfl rfl (IntWalk.i64_in _ (by omega)) ?_
            refine JL_assign rfl ?_
            refine JL_nil_up 67 [osl _ _ _ _ _ _, box _ _ [_, _, _, _, _, _]] [_, _, _, _, _, _, _, _, _, _, _] rfl rfl (by simp only [nrmF]; rfl) rfl rfl ?_
            refine JE_dropAt 1 ?_
            refine JE_norm _ [osl _ _ _ _ _ _] [_, _, _, _, _, _, _, _, _, _, _] rfl rfl rfl ?_
            refine JE_nextS (i + 1, setHi l (n - 1) ⟨ad37, cp37, be37, ce37, shi w tol kk⟩, ad, cap, n, kk - 1) (by kernel_rfl) ?_ ?_ (by kernel_rfl) ?_
            · exact ⟨by omega, by omega, by rw [qq_setHi, spR, ← hkk, ← hl, sstep_set (by rw [List.length_map]; omega) (by rw [List.length_map, hn, qq_getD]; exact cmpQ_le.1 h53), List.length_map, hn], by rw [setHi_len]; exact hn⟩
            · first | omega | (dsimp only; omega)
            · exact subset_app (subset_cons (by repeat (first | with_reducible exact mm0 | refine mmS ?_)) subset_nil) (ssS (ssS (ssS (ssS (ssS (ssS (ssS (ssS (ssS (ssS ss0))))))))))
          · refine JL_pick_t rfl rfl ?_
            refine JL_done_up 67 [osl _ _ _ _ _ _, box _ _ [_, _, _, _, _, _]] [_, _, _, _, _, _, _, _, _, _] rfl rfl (by simp only [nrmF]; rfl) rfl rfl ?_
            refine JC_false rfl ?_
            refine JC_region ?_
            refine JL_move rfl ?_
            refine JL_loadA (vs := [_, _, _, _, _, _]) 1 ty41 rfl rfl ⟨rfl, rfl, rfl, rfl, rfl, rfl, trivial⟩ ?_
            refine JL_buildN (cs0 := [.bool false, .slice none 0 0, .slice none 0 0, .bool false, .slice none 0 0, .slice none 0 0]) (cs := [_, _, _, _, _, _]) [(0, [_, _, _, _, _, _])] sl25 (by kernel_rfl) ⟨⟨rfl, _, rfl, rfl⟩, rfl⟩ rfl rfl rfl rfl (fun g64 => ?_)
            refine JL_append (news := [_, _, _, _, _, _]) 0 sl25 rfl (by decide) rfl rfl rfl rfl (Reads.own 2 rfl) (AllOne.cons rfl (AllOne.cons rfl (AllOne.cons rfl (AllOne.cons rfl (AllOne.cons rfl (AllOne.cons rfl AllOne.nil)))))) (by omega) (by omega) (fun ad65 cap65 hc65 => ?_)
            refine JL_dropAt 2 ?_
            refine JL_norm _ [osl _ _ _ _ _ _, box _ _ [_, _, _, _, _, _]] [_, _, _, _, _, _, _, _, _, _] rfl rfl rfl ?_
            rw [show scells l ++ sc ⟨⟨ad32, cp32, be32, ce32, slo w tol kk⟩, ⟨ad37, cp37, be37, ce37, shi w tol kk⟩⟩ = scells (l ++ [⟨⟨ad32, cp32, be32, ce32, slo w tol kk⟩, ⟨ad37, cp37, be37, ce37, shi w tol kk⟩⟩]) from scells_snoc l _]
            refine JL_sesSnoc (f := true) (l := l) ⟨⟨ad32, cp32, be32, ce32, slo w tol kk⟩, ⟨ad37, cp37, be37, ce37, shi w tol kk⟩⟩ (by repeat (first | with_reducible exact mm0 | refine mmS ?_)) (by repeat (first | with_reducible exact mm0 | refine mmS ?_)) (by repeat (first | with_reducible exact mm0 | refine mmS ?_)) (by repeat (first | with_reducible exact mm0 | refine mmS ?_)) (by repeat (first | with_reducible exact mm0 | refine mmS ?_)) ?_
            refine JL_assign rfl ?_
            refine JL_nil_up 67 [osl _ _ _ _ _ _, box _ _ [_, _, _, _, _, _]] [_, _, _, _, _, _, _, _, _, _, _] rfl rfl (by simp only [nrmF]; rfl) rfl rfl ?_
            refine JE_block_normal ?_
            refine JE_then ?_
            refine JC_region ?_
            refine JL_move rfl ?_
            refine JL_sub_to rfl rfl (IntWalk.i64_in _ (by omega)) ?_
            refine JL_assign rfl ?_
            refine JL_nil_up 67 [osl _ _ _ _ _ _, box _ _ [_, _, _, _, _, _]] [_, _, _, _, _, _, _, _, _, _, _] rfl rfl (by simp only [nrmF]; rfl) rfl rfl ?_
            refine JE_dropAt 1 ?_
            refine JE_norm _ [osl _ _ _ _ _ _] [_, _, _, _, _, _, _, _, _, _, _] rfl rfl rfl ?_
            refine JE_nextS (i + 1, l ++ [⟨⟨ad32, cp32, be32, ce32, slo w tol kk⟩, ⟨ad37, cp37, be37, ce37, shi w tol kk⟩⟩], ad65, cap65, n + 1, kk - 1) (by kernel_rfl) ?_ ?_ (by kernel_rfl) ?_
            · exact ⟨by omega, by omega, by rw [spR, ← hkk, ← hl, sstep_add (by rw [List.length_map, hn, qq_getD]; exact fun e => h53 (cmpQ_le.2 e)), List.map_append]; rfl, by rw [List.length_append, hn]; rfl⟩
            · first | omega | (dsimp only; omega)
            · exact subset_app (subset_cons (by repeat (first | with_reducible exact mm0 | refine mmS ?_)) subset_nil) (ssS (ssS (ssS (ssS (ssS (ssS (ssS (ssS (ssS (ssS ss0))))))))))
      · refine JL_done_up 67 [osl _ _ _ _ _ _] [_, _] rfl rfl (by simp only [nrmF]; rfl) rfl rfl ?_
        refine JC_false rfl ?_
        refine JC_exit ?_
        refine JE_then_exit ?_
        refine JE_nextS_exit ?_
        refine JE_block_exit ?_
        refine JE_then ?_
        refine JC_seq ?_
        refine JC_region ?_
        refine JL_move rfl ?_
        refine JL_assign rfl ?_
        refine JL_assign rfl ?_
        refine JL_done_up 67 [osl _ _ _ _ _ _] [_, _] rfl rfl (by simp only [nrmF]; rfl) rfl rfl ?_
        refine JC_ret ?_
        have hie : i = m.toNat := by omega
        subst hie
        subst hn
        refine JE_give 0 rfl ?_
        refine JE_norm _ [] [_, _, _] rfl rfl rfl ?_
        refine JE_ret (vs := [_, _]) [vCells ad (scells l), vSes l] Tryd.results10 ⟨rfl, rfl, rfl⟩ ?_ ?_
        · rw [spL_ok (by rw [spE_lim h14]; exact limE_ok hlim), spE_lim h14, limE_ok hlim]; exact ⟨ad, cap, l, rfl, hl, rfl⟩
        · exact (all_cons (by repeat (first | with_reducible exact mm0 | refine mmS ?_)) (all_cons (by repeat (first | with_reducible exact mm0 | refine mmS ?_)) all_nil))
  · refine JL_not rfl ?_
    rw [Bool.not_false]
    refine JL_done_up 67 [] [] rfl rfl (by simp only [nrmF]; rfl) rfl rfl ?_
    refine JC_true rfl ?_
    refine JC_seq ?_
    refine JC_region ?_
    refine JL_assign rfl ?_
    refine JL_assign rfl ?_
    refine JL_done_up 67 [] [] rfl rfl (by simp only [nrmF]; rfl) rfl rfl ?_
    refine JC_ret ?_
    refine JE_then_ret ?_
    refine JE_sesNil ?_
    refine JE_ret (vs := [_, _]) [vCells none (scells []), vSes []] Tryd.results10 ⟨rfl, rfl, rfl⟩ ?_ ?_
    · rw [spL_no (by rw [spE_w h14]; decide), spE_w h14]; exact ⟨none, 0, [], rfl, rfl, rfl⟩
    · exact (all_cons (by repeat (first | with_reducible exact mm0 | refine mmS ?_)) (all_cons (by repeat (first | with_reducible exact mm0 | refine mmS ?_)) all_nil))

end Go.Fw.K
