/- Walks through functions of the given program: each meets its contract. (Printed by a program of this repo.) -/
import Derived.Test.YtgnljjdcbfijnaaDoorG
import Derived.Test.YtgnljjdcbfijnaaDoorFrT
import Derived.Test.YtgnljjdcbfijnaaDoorProg
namespace Go.Fw.S2
open Go Go.RowKit Go.Proofs Go.Nat9 Go.Fw
attribute [local irreducible] JC JL JE
theorem ca17 : callable Tryd.prog 17 = true := by kernel_rfl
theorem ca32 : callable Tryd.prog 32 = true := by kernel_rfl
theorem ca33 : callable Tryd.prog 33 = true := by kernel_rfl
theorem ca34 : callable Tryd.prog 34 = true := by kernel_rfl
theorem ca35 : callable Tryd.prog 35 = true := by kernel_rfl
theorem fo41_0 : fOf Tryd.prog 41 0 = some 0 := by kernel_rfl
theorem fo41_1 : fOf Tryd.prog 41 1 = some 3 := by kernel_rfl
theorem mixed : Tryd.prog.follows .mixedOrders = true := by kernel_rfl
theorem sl25 : slOf Tryd.prog 25 = some (41, 6, 112, [.bool false, .slice none 0 0, .slice none 0 0, .bool false, .slice none 0 0, .slice none 0 0]) := by kernel_rfl
theorem st41 : stOf Tryd.prog 41 = some ([(0, 3), (3, 3)], [.bool false, .slice none 0 0, .slice none 0 0, .bool false, .slice none 0 0, .slice none 0 0]) := by kernel_rfl
theorem ty35 : tyOf Tryd.prog 35 = some (true, 3) := by kernel_rfl
theorem ty41 : tyOf Tryd.prog 41 = some (true, 6) := by kernel_rfl
theorem z41 : zeroOf Tryd.prog 41 = some [.bool false, .slice none 0 0, .slice none 0 0, .bool false, .slice none 0 0, .slice none 0 0] := by kernel_rfl
end Go.Fw.S2
namespace Go.Fw.K
open Go Go.RowKit Go.Proofs Go.Nat9 Go.Fw Go.Fw.S2
attribute [local irreducible] JC JL JE

theorem bin38_con {n lo hi : Int} :
    ConF Tryd.prog 17 [.int .i64 n, .int .i64 lo, .int .i64 hi] []
      (fun v φo => v = .bool (decide (lo ≤ n ∧ n ≤ hi)) ∧ φo = []) := by
  refine ConF_of Tryd.func17 rfl 15 _ rfl rfl ?_
  intro w0
  refine JC_norm ⟨15, [], [_, _, _, _, _, _, _, _, _, _, _, _, _, _, _]⟩ [] [] rfl rfl rfl ?_
  refine JC_seq ?_
  refine JC_region ?_
  refine JL_assign rfl ?_
  refine JL_done_up 15 [] [] rfl rfl (by simp only [nrmF]; rfl) rfl rfl ?_
  refine JC_seq ?_
  refine JC_region ?_
  refine JL_move rfl ?_
  refine JL_move rfl ?_
  refine JL_geq rfl rfl ?_
  refine JL_split (fun h9 => ?_) (fun h9 => ?_)
  · refine JL_move rfl ?_
    refine JL_guard_yes rfl rfl ?_
    refine JL_move rfl ?_
    refine JL_guard_yes rfl rfl ?_
    refine JL_move rfl ?_
    refine JL_guard_yes rfl rfl ?_
    refine JL_leq rfl rfl ?_
    refine JL_split (fun h13 => ?_) (fun h13 => ?_)
    · refine JL_pick_t rfl rfl ?_
      refine JL_assign rfl ?_
      refine JL_done_up 15 [] [] rfl rfl (by simp only [nrmF]; rfl) rfl rfl ?_
      refine JC_ret ?_
      refine JE_ret (vs := [_]) [] Tryd.results17 ⟨rfl, rfl⟩ ?_ ?_
      · rw [decide_eq_true (by omega)]; exact ⟨rfl, rfl⟩
      · exact all_nil
    · refine JL_pick_t rfl rfl ?_
      refine JL_assign rfl ?_
      refine JL_done_up 15 [] [] rfl rfl (by simp only [nrmF]; rfl) rfl rfl ?_
      refine JC_ret ?_
      refine JE_ret (vs := [_]) [] Tryd.results17 ⟨rfl, rfl⟩ ?_ ?_
      · rw [decide_eq_false (by omega)]; exact ⟨rfl, rfl⟩
      · exact all_nil
  · refine JL_move rfl ?_
    refine JL_guard_no rfl rfl ?_
    refine JL_guard_no rfl rfl ?_
    refine JL_guard_no rfl rfl ?_
    refine JL_pick_f rfl rfl ?_
    refine JL_assign rfl ?_
    refine JL_done_up 15 [] [] rfl rfl (by simp only [nrmF]; rfl) rfl rfl ?_
    refine JC_ret ?_
    refine JE_ret (vs := [_]) [] Tryd.results17 ⟨rfl, rfl⟩ ?_ ?_
    · rw [decide_eq_false (by omega)]; exact ⟨rfl, rfl⟩
    · exact all_nil

theorem rwt_con {w : Int} :
    ConF Tryd.prog 32 [.int .i64 w] []
      (fun v φo => v = .bool (decide (wOk w)) ∧ φo = []) := by
  refine ConF_of Tryd.func32 rfl 5 _ rfl rfl ?_
  intro w0
  refine JC_norm ⟨5, [], [_, _, _, _, _]⟩ [] [] rfl rfl rfl ?_
  refine JC_seq ?_
  refine JC_region ?_
  refine JL_assign rfl ?_
  refine JL_done_up 5 [] [] rfl rfl (by simp only [nrmF]; rfl) rfl rfl ?_
  refine JC_seq ?_
  refine JC_region ?_
  refine JL_move rfl ?_
  refine JL_callF' Asks.nil (bin38_con) rfl ca17 ⟨rfl, rfl, rfl, rfl⟩ ?_
  rintro _ _ ⟨rfl, rfl⟩
  refine JL_split (fun h4 => ?_) (fun h4 => ?_)
  · refine JL_assign rfl ?_
    refine JL_done_up 5 [] [] rfl rfl (by simp only [nrmF]; rfl) rfl rfl ?_
    refine JC_ret ?_
    refine JE_ret (vs := [_]) [] Tryd.results32 ⟨rfl, rfl⟩ ?_ ?_
    · rw [decide_eq_true (p := wOk w) h4]; exact ⟨rfl, rfl⟩
    · exact all_nil
  · refine JL_assign rfl ?_
    refine JL_done_up 5 [] [] rfl rfl (by simp only [nrmF]; rfl) rfl rfl ?_
    refine JC_ret ?_
    refine JE_ret (vs := [_]) [] Tryd.results32 ⟨rfl, rfl⟩ ?_ ?_
    · rw [decide_eq_false (p := wOk w) h4]; exact ⟨rfl, rfl⟩
    · exact all_nil

theorem rlim_con {tol m : Int} :
    ConF Tryd.prog 33 [.int .i64 tol, .int .i64 m] []
      (fun v φo => v = .bool (decide (limOk tol m)) ∧ φo = []) := by
  refine ConF_of Tryd.func33 rfl 11 _ rfl rfl ?_
  intro w0
  refine JC_norm ⟨11, [], [_, _, _, _, _, _, _, _, _, _, _]⟩ [] [] rfl rfl rfl ?_
  refine JC_seq ?_
  refine JC_region ?_
  refine JL_assign rfl ?_
  refine JL_done_up 11 [] [] rfl rfl (by simp only [nrmF]; rfl) rfl rfl ?_
  refine JC_seq ?_
  refine JC_region ?_
  refine JL_move rfl ?_
  refine JL_callF' Asks.nil (bin38_con) rfl ca17 ⟨rfl, rfl, rfl, rfl⟩ ?_
  rintro _ _ ⟨rfl, rfl⟩
  refine JL_split (fun h6 => ?_) (fun h6 => ?_)
  · refine JL_move rfl ?_
    refine JL_guard_yes rfl rfl ?_
    refine JL_move rfl ?_
    refine JL_guard_yes rfl rfl ?_
    refine JL_callF' Asks.nil (bin38_con) rfl ca17 ⟨rfl, rfl, rfl, rfl⟩ ?_
    rintro _ _ ⟨rfl, rfl⟩
    refine JL_split (fun h9 => ?_) (fun h9 => ?_)
    · refine JL_pick_t rfl rfl ?_
      refine JL_assign rfl ?_
      refine JL_done_up 11 [] [] rfl rfl (by simp only [nrmF]; rfl) rfl rfl ?_
      refine JC_ret ?_
      refine JE_ret (vs := [_]) [] Tryd.results33 ⟨rfl, rfl⟩ ?_ ?_
      · rw [decide_eq_true (p := limOk tol m) ⟨h6, h9⟩]; exact ⟨rfl, rfl⟩
      · exact all_nil
    · refine JL_pick_t rfl rfl ?_
      refine JL_assign rfl ?_
      refine JL_done_up 11 [] [] rfl rfl (by simp only [nrmF]; rfl) rfl rfl ?_
      refine JC_ret ?_
      refine JE_ret (vs := [_]) [] Tryd.results33 ⟨rfl, rfl⟩ ?_ ?_
      · rw [decide_eq_false (p := limOk tol m) (fun h => h9 h.2)]; exact ⟨rfl, rfl⟩
      · exact all_nil
  · refine JL_move rfl ?_
    refine JL_guard_no rfl rfl ?_
    refine JL_guard_no rfl rfl ?_
    refine JL_pick_f rfl rfl ?_
    refine JL_assign rfl ?_
    refine JL_done_up 11 [] [] rfl rfl (by simp only [nrmF]; rfl) rfl rfl ?_
    refine JC_ret ?_
    refine JE_ret (vs := [_]) [] Tryd.results33 ⟨rfl, rfl⟩ ?_ ?_
    · rw [decide_eq_false (p := limOk tol m) (fun h => h6 h.1)]; exact ⟨rfl, rfl⟩
    · exact all_nil

set_option maxHeartbeats 1000000 in
theorem rspans_con {w tol m : Int} :
    ConF Tryd.prog 11 [.int .i64 w, .int .i64 tol, .int .i64 m] []
      (SPS (spL w tol m) (spE w tol m)) := by
  refine ConF_of Tryd.func11 rfl 63 _ rfl rfl ?_
  intro w0
  refine JC_norm ⟨63, [], [_, _, _, _, _, _, _, _, _, _, _, _, _, _, _, _, _, _, _, _, _, _, _, _, _, _, _, _, _, _, _, _, _, _, _, _, _, _, _, _, _, _, _, _, _, _, _, _, _, _, _, _, _, _, _, _, _, _, _, _, _, _, _]⟩ [] [] rfl rfl rfl ?_
  refine JC_seq ?_
  refine JC_region ?_
  refine JL_assign rfl ?_
  refine JL_assign rfl ?_
  refine JL_done_up 63 [] [] rfl rfl (by simp only [nrmF]; rfl) rfl rfl ?_
  refine JC_seq ?_
  refine JC_seq ?_
  refine JC_region ?_
  refine JL_move rfl ?_
  refine JL_callF' Asks.nil (rwt_con) rfl ca32 ⟨rfl, rfl⟩ ?_
  rintro _ _ ⟨rfl, rfl⟩
  refine JL_split (fun h13 => ?_) (fun h13 => ?_)
  · refine JL_not rfl ?_
    rw [Bool.not_true]
    refine JL_done_up 63 [] [] rfl rfl (by simp only [nrmF]; rfl) rfl rfl ?_
    refine JC_false rfl ?_
    refine JC_skip ?_
    refine JE_then ?_
    refine JC_seq ?_
    refine JC_seq ?_
    refine JC_region ?_
    refine JL_move rfl ?_
    refine JL_move rfl ?_
    refine JL_callF' Asks.nil (rlim_con) rfl ca33 ⟨rfl, rfl, rfl⟩ ?_
    rintro _ _ ⟨rfl, rfl⟩
    refine JL_split (fun h17 => ?_) (fun h17 => ?_)
    · refine JL_not rfl ?_
      rw [Bool.not_true]
      refine JL_done_up 63 [] [] rfl rfl (by simp only [nrmF]; rfl) rfl rfl ?_
      refine JC_false rfl ?_
      refine JC_skip ?_
      refine JE_then ?_
      refine JC_seq ?_
      have hlim : limOk tol m := h17
      have hlim2 := hlim
      obtain ⟨⟨hl1, hl2⟩, hl3, hl4⟩ := hlim2
      have hwt2 := h13
      obtain ⟨hw1, hw2⟩ := hwt2
      refine JC_region ?_
      refine JL_assign rfl ?_
      refine JL_done_up 63 [] [] rfl rfl (by simp only [nrmF]; rfl) rfl rfl ?_
      refine JC_seq ?_
      refine JC_seq ?_
      refine JC_region ?_
      refine JL_move rfl ?_
      refine JL_assign rfl ?_
      refine JL_done_up 63 [] [] rfl rfl (by simp only [nrmF]; rfl) rfl rfl ?_
      refine JC_block ?_
      refine JC_sesNil ?_
      refine JC_addNil 41 6 ?_
      refine JC_norm ⟨63, [], [_, _, _, _, _, _, _, _, _, _, _, _, _, _, _, _, _, _, _, _, _, _, _, _, _, _, _, _, _, _, _, _, _, _, _, _, _, _, _, _, _, _, _, _, _, _, _, _, _, _, _, _, _, _, _, _, _, _, _, _, _, _, _]⟩ [osl _ _ _ _ _ _] [_] rfl rfl rfl ?_
      refine JC_loopS ((Nat) × (List Se) × (Option Addr) × (Nat) × (Nat) × (Int)) (fun (i, l, ad, cap, n, kk) => i ≤ m.toNat ∧ kk = m - (i : Int) ∧ l.map Se.qq = spR w tol m i ∧ l.length = n) (fun (i, l, ad, cap, n, kk) => m.toNat - i) (fun u (i, l, ad, cap, n, kk) => [none, none, none, none, none, none, none, none, some (.slice ad n cap), some (.int .i64 kk), some (u 10), some (u 11), none, none, none, none, none, none, none, none, some (u 20), some (u 21), some (u 22), some (u 23), some (u 24), some (u 25), some (u 26), some (u 27), some (u 28), some (u 29), some (u 30), some (u 31), some (u 32), some (u 33), some (u 34), some (u 35), some (u 36), some (u 37), some (u 38), some (u 39), some (u 40), some (u 41), some (u 42), some (u 43), some (u 44), some (u 45), some (u 46), some (u 47), some (u 48), some (u 49), some (u 50), some (u 51), some (u 52), some (u 53), some (u 54), some (u 55), some (u 56), some (u 57), some (u 58), some (u 59), some (u 60), some (u 61), none]) (fun (i, l, ad, cap, n, kk) => [some (osl ad n cap 41 6 (scells l))]) (fun (i, l, ad, cap, n, kk) => [(true, vSes l)]) (0, [], none, 0, 0, m) (by kernel_rfl) ?_ (by kernel_rfl) ?_ ?_
      · exact ⟨Nat.zero_le _, by omega, rfl, rfl⟩
      · exact (subset_cons (by repeat (first | with_reducible exact mm0 | refine mmS ?_)) subset_nil)
      intro u i hC
      obtain ⟨i, l, ad, cap, n, kk⟩ := i
      obtain ⟨hi, hkk, hl, hn⟩ := hC
      refine JC_norm ⟨63, [], [_, _, _, _, _, _, _, _, _, _, _, _, _, _, _, _, _, _, _, _, _, _, _, _, _, _, _, _, _, _, _, _, _, _, _, _, _, _, _, _, _, _, _, _, _, _, _, _, _, _, _, _, _, _, _, _, _, _, _, _, _, _, _]⟩ [osl _ _ _ _ _ _] [_, _] rfl rfl rfl ?_
      refine JC_seq ?_
      refine JC_seq ?_
      refine JC_region ?_
      refine JL_move rfl ?_
      refine JL_geq rfl rfl ?_
      refine JL_split (fun h21 => ?_) (fun h21 => ?_)
      · refine JL_done_up 63 [osl _ _ _ _ _ _] [_, _] rfl rfl (by simp only [nrmF]; rfl) rfl rfl ?_
        refine JC_true rfl ?_
        refine JC_skip ?_
        refine JE_then ?_
        refine JC_seq ?_
        refine JC_block ?_
        refine JC_seq ?_
        have hmx := mxo_in (a := w - tol) (b := 200000) (by omega) (by omega)
        have hqlo : qs (slo w tol kk) 3 := qs_slo h13 hl1 ⟨by omega, by omega⟩
        have hqhi : qs (shi w tol kk) 3 := qs_shi h13 ⟨hl1, hl2⟩ ⟨by omega, by omega⟩
        have hQ := qs_spR h13 hlim (i := i) (by omega)
        have hnl := spR_len w tol m i
        rw [← hl, List.length_map] at hnl
        refine JC_region ?_
        refine JL_move rfl ?_
        refine JL_move rfl ?_
        refine JL_sub_to rfl rfl (IntWalk.i64_in _ (by omega)) ?_
        refine JL_max rfl rfl ?_
        rw [show (if w - tol < 1 then (1 : Int) else w - tol) = mxo (w - tol) from rfl]
        refine JL_move rfl ?_
        refine JL_callF' Asks.nil (rofi_con (mxo (w - tol)) kk (by omega) (by omega)) rfl ca34 ⟨rfl, rfl, rfl⟩ ?_
        rintro _ _ ⟨ad29, cp29, be29, ce29, rfl, rfl⟩
        rw [show ofq (mxo (w - tol)) kk = slo w tol kk from rfl]
        refine JL_move rfl ?_
        refine JL_move rfl ?_
        refine JL_add_to rfl rfl (IntWalk.i64_in _ (by omega)) ?_
        refine JL_move rfl ?_
        refine JL_callF' Asks.nil (rofi_con (w + tol) kk (by omega) (by omega)) rfl ca34 ⟨rfl, rfl, rfl⟩ ?_
        rintro _ _ ⟨ad34, cp34, be34, ce34, rfl, rfl⟩
        rw [show ofq (w + tol) kk = shi w tol kk from rfl]
        refine JL_build (cs := [_, _, _, _, _, _]) [(0, [_, _, _]), (1, [_, _, _])] st41 ⟨⟨rfl, _, rfl, rfl⟩, ⟨rfl, _, rfl, rfl⟩, rfl⟩ rfl ?_
        refine JL_alloc z41 (fun b10 => ?_)
        refine JL_store (vs := [_, _, _, _, _, _]) 1 ty41 rfl rfl rfl (AllOne.cons rfl (AllOne.cons rfl (AllOne.cons rfl (AllOne.cons rfl (AllOne.cons rfl (AllOne.cons rfl AllOne.nil)))))) rfl (Nat.le_of_ble_eq_true rfl) ?_
        refine JL_done_up 63 [osl _ _ _ _ _ _, box _ _ [_, _, _, _, _, _]] [_, _, _, _, _, _] rfl rfl (by simp only [nrmF]; rfl) rfl rfl ?_
        refine JC_seq ?_
        refine JC_region ?_
        refine JL_move rfl ?_
        refine JL_len sl25 rfl ?_
        refine JL_sub_to rfl rfl (IntWalk.i64_in _ (by omega)) ?_
        refine JL_assign rfl ?_
        refine JL_done_up 63 [osl _ _ _ _ _ _, box _ _ [_, _, _, _, _, _]] [_, _, _, _, _, _] rfl rfl (by simp only [nrmF]; rfl) rfl rfl ?_
        refine JC_seq ?_
        rcases Nat.eq_zero_or_pos n with h0 | h0
        · refine JC_drawT mixed 10 [spV 39 [] _, spV 40 [0] _, spV 41 [1] _, spV 42 [2] _, spV 43 [2, 3] _, spV 44 [2] _, spV 45 [2] _, spV 46 [2, 5, 6] _, spV 47 [2, 7] _, spV 48 [2, 8] _] ⟨OblS_V (fun vals ex ψ => (by
              refine JL_normQ ⟨63, [(39, _), (40, _), (41, _), (42, _), (43, _), (44, _), (45, _), (46, _), (47, _), (48, _)], _⟩ (_ :: _ :: _ :: _ :: _ :: _ :: ψ) rfl rfl ?_
              refine JL_move rfl ?_
              exact JL_nil (JE_stepV rfl ss0))), OblS_V (fun vals ex ψ => (by
              refine JL_normQ ⟨63, [(39, _), (40, _), (41, _), (42, _), (43, _), (44, _), (45, _), (46, _), (47, _), (48, _)], _⟩ (_ :: _ :: _ :: _ :: _ :: _ :: ψ) rfl rfl ?_
              refine JL_geq rfl rfl ?_
              rw [decide_eq_false (by omega)]
              exact JL_nil (JE_stepV rfl ss0))), OblS_V (fun vals ex ψ => (by
              refine JL_normQ ⟨63, [(39, _), (40, _), (41, _), (42, _), (43, _), (44, _), (45, _), (46, _), (47, _), (48, _)], _⟩ (_ :: _ :: _ :: _ :: _ :: _ :: ψ) rfl rfl ?_
              refine JL_move rfl ?_
              exact JL_nil (JE_stepV rfl ss0))), OblS_V (fun vals ex ψ => (by
              refine JL_normQ ⟨63, [(39, _), (40, _), (41, _), (42, _), (43, _), (44, _), (45, _), (46, _), (47, _), (48, _)], _⟩ (_ :: _ :: _ :: _ :: _ :: _ :: ψ) rfl rfl ?_
              refine JL_guard_no rfl rfl ?_
              exact JL_nil (JE_stepV rfl ss0))), OblS_V (fun vals ex ψ => (by
              refine JL_normQ ⟨63, [(39, _), (40, _), (41, _), (42, _), (43, _), (44, _), (45, _), (46, _), (47, _), (48, _)], _⟩ (_ :: _ :: _ :: _ :: _ :: _ :: ψ) rfl rfl ?_
              refine JL_guard_no rfl rfl ?_
              exact JL_nil (JE_stepV rfl ss0))), OblS_V (fun vals ex ψ => (by
              refine JL_normQ ⟨63, [(39, _), (40, _), (41, _), (42, _), (43, _), (44, _), (45, _), (46, _), (47, _), (48, _)], _⟩ (_ :: _ :: _ :: _ :: _ :: _ :: ψ) rfl rfl ?_
              refine JL_guard_no rfl rfl ?_
              exact JL_nil (JE_stepV rfl ss0))), OblS_V (fun vals ex ψ => (by
              refine JL_normQ ⟨63, [(39, _), (40, _), (41, _), (42, _), (43, _), (44, _), (45, _), (46, _), (47, _), (48, _)], _⟩ (_ :: _ :: _ :: _ :: _ :: _ :: ψ) rfl rfl ?_
              refine JL_guard_no rfl rfl ?_
              exact JL_nil (JE_stepV rfl ss0))), OblS_V (fun vals ex ψ => (by
              refine JL_normQ ⟨63, [(39, _), (40, _), (41, _), (42, _), (43, _), (44, _), (45, _), (46, _), (47, _), (48, _)], _⟩ (_ :: _ :: _ :: _ :: _ :: _ :: ψ) rfl rfl ?_
              refine JL_guard_no rfl rfl ?_
              exact JL_nil (JE_stepV rfl ss0))), OblS_V (fun vals ex ψ => (by
              refine JL_normQ ⟨63, [(39, _), (40, _), (41, _), (42, _), (43, _), (44, _), (45, _), (46, _), (47, _), (48, _)], _⟩ (_ :: _ :: _ :: _ :: _ :: _ :: ψ) rfl rfl ?_
              refine JL_guard_no rfl rfl ?_
              exact JL_nil (JE_stepV rfl ss0))), OblS_V (fun vals ex ψ => (by
              refine JL_normQ ⟨63, [(39, _), (40, _), (41, _), (42, _), (43, _), (44, _), (45, _), (46, _), (47, _), (48, _)], _⟩ (_ :: _ :: _ :: _ :: _ :: _ :: ψ) rfl rfl ?_
              refine JL_guard_no rfl rfl ?_
              exact JL_nil (JE_stepV rfl ss0))), trivial⟩ (by kernel_rfl) (fun vals bs => ?_)
          refine JL_normL [_, _, _] ⟨63, [(39, _), (40, _), (41, _), (42, _), (43, _), (44, _), (45, _), (46, _), (47, _), (48, _)], _⟩ [osl _ _ _ _ _ _, box _ _ [_, _, _, _, _, _]] [_, _, _, _, _, _] rfl rfl rfl rfl ?_
          refine JL_guard_no rfl rfl ?_
          refine JL_guard_no rfl rfl ?_
          refine JL_pick_f rfl rfl ?_
          refine JL_done_up 63 [osl _ _ _ _ _ _, box _ _ [_, _, _, _, _, _]] [_, _, _, _, _, _] rfl rfl (by simp only [nrmF]; rfl) rfl rfl ?_
          refine JC_false rfl ?_
          refine JC_region ?_
          refine JL_move rfl ?_
          refine JL_loadA (vs := [_, _, _, _, _, _]) 1 ty41 rfl rfl ⟨rfl, rfl, rfl, rfl, rfl, rfl, trivial⟩ ?_
          refine JL_buildN (cs0 := [.bool false, .slice none 0 0, .slice none 0 0, .bool false, .slice none 0 0, .slice none 0 0]) (cs := [_, _, _, _, _, _]) [(0, [_, _, _, _, _, _])] sl25 (by kernel_rfl) ⟨⟨rfl, _, rfl, rfl⟩, rfl⟩ rfl rfl rfl rfl (fun g60 => ?_)
          refine JL_append (news := [_, _, _, _, _, _]) 0 sl25 rfl (by decide) rfl rfl rfl rfl (Reads.own 2 rfl) (AllOne.cons rfl (AllOne.cons rfl (AllOne.cons rfl (AllOne.cons rfl (AllOne.cons rfl (AllOne.cons rfl AllOne.nil)))))) (by omega) (by omega) (fun ad61 cap61 hc61 => ?_)
          refine JL_dropAt 2 ?_
          refine JL_norm _ [osl _ _ _ _ _ _, box _ _ [_, _, _, _, _, _]] [_, _, _, _, _, _] rfl rfl rfl ?_
          rw [show scells l ++ sc ⟨⟨ad29, cp29, be29, ce29, slo w tol kk⟩, ⟨ad34, cp34, be34, ce34, shi w tol kk⟩⟩ = scells (l ++ [⟨⟨ad29, cp29, be29, ce29, slo w tol kk⟩, ⟨ad34, cp34, be34, ce34, shi w tol kk⟩⟩]) from scells_snoc l _]
          refine JL_sesSnoc (f := true) (l := l) ⟨⟨ad29, cp29, be29, ce29, slo w tol kk⟩, ⟨ad34, cp34, be34, ce34, shi w tol kk⟩⟩ (by repeat (first | with_reducible exact mm0 | refine mmS ?_)) (by repeat (first | with_reducible exact mm0 | refine mmS ?_)) (by repeat (first | with_reducible exact mm0 | refine mmS ?_)) (by repeat (first | with_reducible exact mm0 | refine mmS ?_)) (by repeat (first | with_reducible exact mm0 | refine mmS ?_)) ?_
          refine JL_assign rfl ?_
          refine JL_nil_up 63 [osl _ _ _ _ _ _, box _ _ [_, _, _, _, _, _]] [_, _, _, _, _, _, _] rfl rfl (by simp only [nrmF]; rfl) rfl rfl ?_
          refine JE_block_normal ?_
          refine JE_then ?_
          refine JC_region ?_
          refine JL_move rfl ?_
          refine JL_sub_to rfl rfl (IntWalk.i64_in _ (by omega)) ?_
          refine JL_assign rfl ?_
          refine JL_nil_up 63 [osl _ _ _ _ _ _, box _ _ [_, _, _, _, _, _]] [_, _, _, _, _, _, _] rfl rfl (by simp only [nrmF]; rfl) rfl rfl ?_
          refine JE_dropAt 1 ?_
          refine JE_norm _ [osl _ _ _ _ _ _] [_, _, _, _, _, _, _] rfl rfl rfl ?_
          refine JE_nextS (i + 1, l ++ [⟨⟨ad29, cp29, be29, ce29, slo w tol kk⟩, ⟨ad34, cp34, be34, ce34, shi w tol kk⟩⟩], ad61, cap61, n + 1, kk - 1) (by kernel_rfl) ?_ ?_ (by kernel_rfl) ?_
          · exact ⟨by omega, by omega, by rw [spR, ← hkk, ← hl, sstep_new (by rw [List.length_map]; omega), List.map_append]; rfl, by rw [List.length_append, hn]; rfl⟩
          · first | omega | (dsimp only; omega)
          · exact subset_app (subset_cons (by repeat (first | with_reducible exact mm0 | refine mmS ?_)) subset_nil) (ssS (ssS (ssS (ssS (ssS (ssS ss0))))))
        · have hql := (se_qs hl hQ (n - 1)).2
          refine JC_sesGet (f := true) (l := l) (l.getD (n - 1) dS) (by repeat (first | with_reducible exact mm0 | refine mmS ?_)) (se_mem (by omega)) ?_
          refine JC_drawT mixed 10 [spV 39 [] _, spV 40 [0] _, spV 41 [1] _, spV 42 [2] _, spV 43 [2, 3] _, spV 44 [2] _, spV 45 [2] _, spV 46 [2, 5, 6] _, spV 47 [2, 7] _, spV 48 [2, 8] _] ⟨OblS_V (fun vals ex ψ => (by
              refine JL_normQ ⟨63, [(39, _), (40, _), (41, _), (42, _), (43, _), (44, _), (45, _), (46, _), (47, _), (48, _)], _⟩ (_ :: _ :: _ :: _ :: _ :: _ :: _ :: _ :: _ :: _ :: ψ) rfl rfl ?_
              refine JL_move rfl ?_
              exact JL_nil (JE_stepV rfl ss0))), OblS_V (fun vals ex ψ => (by
              refine JL_normQ ⟨63, [(39, _), (40, _), (41, _), (42, _), (43, _), (44, _), (45, _), (46, _), (47, _), (48, _)], _⟩ (_ :: _ :: _ :: _ :: _ :: _ :: _ :: _ :: _ :: _ :: ψ) rfl rfl ?_
              refine JL_geq rfl rfl ?_
              rw [decide_eq_true (by omega)]
              exact JL_nil (JE_stepV rfl ss0))), OblS_V (fun vals ex ψ => (by
              refine JL_normQ ⟨63, [(39, _), (40, _), (41, _), (42, _), (43, _), (44, _), (45, _), (46, _), (47, _), (48, _)], _⟩ (_ :: _ :: _ :: _ :: _ :: _ :: _ :: _ :: _ :: _ :: ψ) rfl rfl ?_
              refine JL_move rfl ?_
              exact JL_nil (JE_stepV rfl ss0))), OblS_V (fun vals ex ψ => (by
              refine JL_normQ ⟨63, [(39, _), (40, _), (41, _), (42, _), (43, _), (44, _), (45, _), (46, _), (47, _), (48, _)], _⟩ (_ :: _ :: _ :: _ :: _ :: _ :: _ :: _ :: _ :: _ :: ψ) rfl rfl ?_
              refine JL_guard_yes rfl rfl ?_
              refine JL_fieldAddr fo41_0 rfl ?_
              exact JL_nil (JE_stepV rfl ss0))), OblS_V (fun vals ex ψ => (by
              refine JL_normQ ⟨63, [(39, _), (40, _), (41, _), (42, _), (43, _), (44, _), (45, _), (46, _), (47, _), (48, _)], _⟩ (_ :: _ :: _ :: _ :: _ :: _ :: _ :: _ :: _ :: _ :: ψ) rfl rfl ?_
              refine JL_guard_yes rfl rfl ?_
              refine JL_loadA (vs := [_, _, _]) 1 ty35 rfl rfl ⟨rfl, rfl, rfl, trivial⟩ ?_
              exact JL_nil (JE_stepV rfl ss0))), OblS_V (fun vals ex ψ => (by
              refine JL_normQ ⟨63, [(39, _), (40, _), (41, _), (42, _), (43, _), (44, _), (45, _), (46, _), (47, _), (48, _)], _⟩ (_ :: _ :: _ :: _ :: _ :: _ :: _ :: _ :: _ :: _ :: ψ) rfl rfl ?_
              refine JL_guard_yes rfl rfl ?_
              refine JL_move rfl ?_
              exact JL_nil (JE_stepV rfl ss0))), OblS_V (fun vals ex ψ => (by
              refine JL_normQ ⟨63, [(39, _), (40, _), (41, _), (42, _), (43, _), (44, _), (45, _), (46, _), (47, _), (48, _)], _⟩ (_ :: _ :: _ :: _ :: _ :: _ :: _ :: _ :: _ :: _ :: ψ) rfl rfl ?_
              refine JL_guard_yes rfl rfl ?_
              refine JL_move rfl ?_
              exact JL_nil (JE_stepV rfl ss0))), OblS_V (fun vals ex ψ => (by
              refine JL_normQ ⟨63, [(39, _), (40, _), (41, _), (42, _), (43, _), (44, _), (45, _), (46, _), (47, _), (48, _)], _⟩ (_ :: _ :: _ :: _ :: _ :: _ :: _ :: _ :: _ :: _ :: ψ) rfl rfl ?_
              refine JL_guard_yes rfl rfl ?_
              refine JL_indexAddr (n - 1) sl25 rfl rfl (by omega) (by omega) (Reads.own 0 rfl) (by rw [scells_length]; omega) ?_
              exact JL_nil (JE_stepV rfl ss0))), OblS_V (fun vals ex ψ => (by
              refine JL_normQ ⟨63, [(39, _), (40, _), (41, _), (42, _), (43, _), (44, _), (45, _), (46, _), (47, _), (48, _)], _⟩ (_ :: _ :: _ :: _ :: _ :: _ :: _ :: _ :: _ :: _ :: ψ) rfl rfl ?_
              refine JL_guard_yes rfl rfl ?_
              refine JL_fieldAddrE fo41_1 rfl (Reads.own 0 rfl) (by rw [scells_length]; omega) ?_
              exact JL_nil (JE_stepV rfl ss0))), OblS_V (fun vals ex ψ => (by
              refine JL_normQ ⟨63, [(39, _), (40, _), (41, _), (42, _), (43, _), (44, _), (45, _), (46, _), (47, _), (48, _)], _⟩ (_ :: _ :: _ :: _ :: _ :: _ :: _ :: _ :: _ :: _ :: ψ) rfl rfl ?_
              refine JL_guard_yes rfl rfl ?_
              refine JL_loadEA (vs := [_, _, _]) ty35 (Nat.zero_lt_succ _) rfl (Reads.own 0 rfl) (scells_hiA (by omega)) ?_
              exact JL_nil (JE_stepV rfl ss0))), trivial⟩ (by kernel_rfl) (fun vals bs => ?_)
          refine JL_normL [_, _, _] ⟨63, [(39, _), (40, _), (41, _), (42, _), (43, _), (44, _), (45, _), (46, _), (47, _), (48, _)], _⟩ [osl _ _ _ _ _ _, box _ _ [_, _, _, _, _, _]] [_, _, _, _, _, _, _, _, _, _] rfl rfl rfl rfl ?_
          refine JL_guard_yes rfl rfl ?_
          refine JL_callF' (Asks.cons (by first | exact holds_of_mem (by repeat (first | with_reducible exact mm0 | refine mmS ?_)) | (exact holds_of_own 0 rfl)) (Asks.cons (by first | exact holds_of_mem (by repeat (first | with_reducible exact mm0 | refine mmS ?_)) | (exact holds_of_own 0 rfl)) (Asks.cons (by first | exact holds_of_mem (by repeat (first | with_reducible exact mm0 | refine mmS ?_)) | (exact holds_of_own 0 rfl)) (Asks.cons (by first | exact holds_of_mem (by repeat (first | with_reducible exact mm0 | refine mmS ?_)) | (exact holds_of_own 0 rfl)) Asks.nil)))) (rcmpq_con (FIn.some (hqlo.mono (by decide))) (FIn.some (hql.mono (by decide)))) rfl ca35 ⟨rfl, rfl, rfl⟩ ?_
          rintro _ _ ⟨rfl, rfl⟩
          refine JL_guard_yes rfl rfl ?_
          refine JL_leq rfl rfl ?_
          refine JL_split (fun h50 => ?_) (fun h50 => ?_)
          · refine JL_pick_t rfl rfl ?_
            refine JL_done_up 63 [osl _ _ _ _ _ _, box _ _ [_, _, _, _, _, _]] [_, _, _, _, _, _, _, _, _, _] rfl rfl (by simp only [nrmF]; rfl) rfl rfl ?_
            refine JC_true rfl ?_
            refine JC_region ?_
            refine JL_move rfl ?_
            refine JL_move rfl ?_
            refine JL_fieldAddr fo41_1 rfl ?_
            refine JL_loadA (vs := [_, _, _]) 1 ty35 rfl rfl ⟨rfl, rfl, rfl, trivial⟩ ?_
            refine JL_indexAddr (n - 1) sl25 rfl rfl (by omega) (by omega) (Reads.own 0 rfl) (by rw [scells_length]; omega) ?_
            refine JL_fieldAddrE fo41_1 rfl (Reads.own 0 rfl) (by rw [scells_length]; omega) ?_
            refine JL_storeE (vs := [_, _, _]) 0 ty35 (Nat.zero_lt_succ _) rfl rfl rfl (AllOne.cons rfl (AllOne.cons rfl (AllOne.cons rfl AllOne.nil))) rfl (by rw [scells_length]; simp only [List.length_cons, List.length_nil]; omega) ?_
            rw [show setAll (scells l) ((n - 1) * 6 + 3) (fc ⟨ad34, cp34, be34, ce34, shi w tol kk⟩) = scells (setHi l (n - 1) ⟨ad34, cp34, be34, ce34, shi w tol kk⟩) from scells_setHi _ _ _ (by omega)]
            refine JL_sesSet (f := true) (l := l) (j := n - 1) (by omega) ⟨ad34, cp34, be34, ce34, shi w tol kk⟩ (by repeat (first | with_reducible exact mm0 | refine mmS ?_)) (by repeat (first | with_reducible exact mm0 | refine mmS ?_)) (by repeat (first | with_reducible exact mm0 | refine mmS ?_)) ?_
            refine JL_nil_up 63 [osl _ _ _ _ _ _, box _ _ [_, _, _, _, _, _]] [_, _, _, _, _, _, _, _, _, _, _] rfl rfl (by simp only [nrmF]; rfl) rfl rfl ?_
            refine JE_block_normal ?_
            refine JE_then ?_
            refine JC_region ?_
            refine JL_move rfl ?_
            refine JL_sub_to rfl rfl (IntWalk.i64_in _ (by omega)) ?_
            refine JL_assign rfl ?_
            refine JL_nil_up 63 [osl _ _ _ _ _ _, box _ _ [_, _, _, _, _, _]] [_, _, _, _, _, _, _, _, _, _, _] rfl rfl (by simp only [nrmF]; rfl) rfl rfl ?_
            refine JE_dropAt 1 ?_
            refine JE_norm _ [osl _ _ _ _ _ _] [_, _, _, _, _, _, _, _, _, _, _] rfl rfl rfl ?_
            refine JE_nextS (i + 1, setHi l (n - 1) ⟨ad34, cp34, be34, ce34, shi w tol kk⟩, ad, cap, n, kk - 1) (by kernel_rfl) ?_ ?_ (by kernel_rfl) ?_
            · exact ⟨by omega, by omega, by rw [qq_setHi, spR, ← hkk, ← hl, sstep_set (by rw [List.length_map]; omega) (by rw [List.length_map, hn, qq_getD]; exact cmpQ_le.1 h50), List.length_map, hn], by rw [setHi_len]; exact hn⟩
            · first | omega | (dsimp only; omega)
            · exact subset_app (subset_cons (by repeat (first | with_reducible exact mm0 | refine mmS ?_)) subset_nil) (ssS (ssS (ssS (ssS (ssS (ssS (ssS (ssS (ssS (ssS ss0))))))))))
          · refine JL_pick_t rfl rfl ?_
            refine JL_done_up 63 [osl _ _ _ _ _ _, box _ _ [_, _, _, _, _, _]] [_, _, _, _, _, _, _, _, _, _] rfl rfl (by simp only [nrmF]; rfl) rfl rfl ?_
            refine JC_false rfl ?_
            refine JC_region ?_
            refine JL_move rfl ?_
            refine JL_loadA (vs := [_, _, _, _, _, _]) 1 ty41 rfl rfl ⟨rfl, rfl, rfl, rfl, rfl, rfl, trivial⟩ ?_
            refine JL_buildN (cs0 := [.bool false, .slice none 0 0, .slice none 0 0, .bool false, .slice none 0 0, .slice none 0 0]) (cs := [_, _, _, _, _, _]) [(0, [_, _, _, _, _, _])] sl25 (by kernel_rfl) ⟨⟨rfl, _, rfl, rfl⟩, rfl⟩ rfl rfl rfl rfl (fun g60 => ?_)
            refine JL_append (news := [_, _, _, _, _, _]) 0 sl25 rfl (by decide) rfl rfl rfl rfl (Reads.own 2 rfl) (AllOne.cons rfl (AllOne.cons rfl (AllOne.cons rfl (AllOne.cons rfl (AllOne.cons rfl (AllOne.cons rfl AllOne.nil)))))) (by omega) (by omega) (fun ad61 cap61 hc61 => ?_)
            refine JL_dropAt 2 ?_
            refine JL_norm _ [osl _ _ _ _ _ _, box _ _ [_, _, _, _, _, _]] [_, _, _, _, _, _, _, _, _, _] rfl rfl rfl ?_
            rw [show scells l ++ sc ⟨⟨ad29, cp29, be29, ce29, slo w tol kk⟩, ⟨ad34, cp34, be34, ce34, shi w tol kk⟩⟩ = scells (l ++ [⟨⟨ad29, cp29, be29, ce29, slo w tol kk⟩, ⟨ad34, cp34, be34, ce34, shi w tol kk⟩⟩]) from scells_snoc l _]
            refine JL_sesSnoc (f := true) (l := l) ⟨⟨ad29, cp29, be29, ce29, slo w tol kk⟩, ⟨ad34, cp34, be34, ce34, shi w tol kk⟩⟩ (by repeat (first | with_reducible exact mm0 | refine mmS ?_)) (by repeat (first | with_reducible exact mm0 | refine mmS ?_)) (by repeat (first | with_reducible exact mm0 | refine mmS ?_)) (by repeat (first | with_reducible exact mm0 | refine mmS ?_)) (by repeat (first | with_reducible exact mm0 | refine mmS ?_)) ?_
            refine JL_assign rfl ?_
            refine JL_nil_up 63 [osl _ _ _ _ _ _, box _ _ [_, _, _, _, _, _]] [_, _, _, _, _, _, _, _, _, _, _] rfl rfl (by simp only [nrmF]; rfl) rfl rfl ?_
            refine JE_block_normal ?_
            refine JE_then ?_
            refine JC_region ?_
            refine JL_move rfl ?_
            refine JL_sub_to rfl rfl (IntWalk.i64_in _ (by omega)) ?_
            refine JL_assign rfl ?_
            refine JL_nil_up 63 [osl _ _ _ _ _ _, box _ _ [_, _, _, _, _, _]] [_, _, _, _, _, _, _, _, _, _, _] rfl rfl (by simp only [nrmF]; rfl) rfl rfl ?_
            refine JE_dropAt 1 ?_
            refine JE_norm _ [osl _ _ _ _ _ _] [_, _, _, _, _, _, _, _, _, _, _] rfl rfl rfl ?_
            refine JE_nextS (i + 1, l ++ [⟨⟨ad29, cp29, be29, ce29, slo w tol kk⟩, ⟨ad34, cp34, be34, ce34, shi w tol kk⟩⟩], ad61, cap61, n + 1, kk - 1) (by kernel_rfl) ?_ ?_ (by kernel_rfl) ?_
            · exact ⟨by omega, by omega, by rw [spR, ← hkk, ← hl, sstep_add (by rw [List.length_map, hn, qq_getD]; exact fun e => h50 (cmpQ_le.2 e)), List.map_append]; rfl, by rw [List.length_append, hn]; rfl⟩
            · first | omega | (dsimp only; omega)
            · exact subset_app (subset_cons (by repeat (first | with_reducible exact mm0 | refine mmS ?_)) subset_nil) (ssS (ssS (ssS (ssS (ssS (ssS (ssS (ssS (ssS (ssS ss0))))))))))
      · refine JL_done_up 63 [osl _ _ _ _ _ _] [_, _] rfl rfl (by simp only [nrmF]; rfl) rfl rfl ?_
        refine JC_false rfl ?_
        refine JC_exit ?_
        refine JE_then_exit ?_
        refine JE_nextS_exit ?_
        refine JE_block_exit ?_
        refine JE_then ?_
        refine JC_seq ?_
        refine JC_region ?_
        refine JL_move rfl ?_
        refine JL_assign rfl ?_
        refine JL_assign rfl ?_
        refine JL_done_up 63 [osl _ _ _ _ _ _] [_, _] rfl rfl (by simp only [nrmF]; rfl) rfl rfl ?_
        refine JC_ret ?_
        have hie : i = m.toNat := by omega
        subst hie
        subst hn
        refine JE_give 0 rfl ?_
        refine JE_norm _ [] [_, _, _] rfl rfl rfl ?_
        refine JE_ret (vs := [_, _]) [vCells ad (scells l), vSes l] Tryd.results11 ⟨rfl, rfl, rfl⟩ ?_ ?_
        · rw [spL_ok (by rw [spE_lim h13]; exact limE_ok hlim), spE_lim h13, limE_ok hlim]; exact ⟨ad, cap, l, rfl, hl, rfl⟩
        · exact (all_cons (by repeat (first | with_reducible exact mm0 | refine mmS ?_)) (all_cons (by repeat (first | with_reducible exact mm0 | refine mmS ?_)) all_nil))
    · refine JL_not rfl ?_
      rw [Bool.not_false]
      refine JL_done_up 63 [] [] rfl rfl (by simp only [nrmF]; rfl) rfl rfl ?_
      refine JC_true rfl ?_
      refine JC_seq ?_
      refine JC_region ?_
      refine JL_assign rfl ?_
      refine JL_assign rfl ?_
      refine JL_done_up 63 [] [] rfl rfl (by simp only [nrmF]; rfl) rfl rfl ?_
      refine JC_ret ?_
      refine JE_then_ret ?_
      refine JE_sesNil ?_
      refine JE_ret (vs := [_, _]) [vCells none (scells []), vSes []] Tryd.results11 ⟨rfl, rfl, rfl⟩ ?_ ?_
      · rw [spL_no (by rw [spE_lim h13, limE_no h17]; decide), spE_lim h13, limE_no h17]; exact ⟨none, 0, [], rfl, rfl, rfl⟩
      · exact (all_cons (by repeat (first | with_reducible exact mm0 | refine mmS ?_)) (all_cons (by repeat (first | with_reducible exact mm0 | refine mmS ?_)) all_nil))
  · refine JL_not rfl ?_
    rw [Bool.not_false]
    refine JL_done_up 63 [] [] rfl rfl (by simp only [nrmF]; rfl) rfl rfl ?_
    refine JC_true rfl ?_
    refine JC_seq ?_
    refine JC_region ?_
    refine JL_assign rfl ?_
    refine JL_assign rfl ?_
    refine JL_done_up 63 [] [] rfl rfl (by simp only [nrmF]; rfl) rfl rfl ?_
    refine JC_ret ?_
    refine JE_then_ret ?_
    refine JE_sesNil ?_
    refine JE_ret (vs := [_, _]) [vCells none (scells []), vSes []] Tryd.results11 ⟨rfl, rfl, rfl⟩ ?_ ?_
    · rw [spL_no (by rw [spE_w h13]; decide), spE_w h13]; exact ⟨none, 0, [], rfl, rfl, rfl⟩
    · exact (all_cons (by repeat (first | with_reducible exact mm0 | refine mmS ?_)) (all_cons (by repeat (first | with_reducible exact mm0 | refine mmS ?_)) all_nil))

end Go.Fw.K
