/- Walks through functions of the given program: each meets its contract. (Printed by a program of this repo.) -/
import Derived.Test.YtehoikaiakigfaaDoorC4
import Derived.Test.YtehoikaiakigfaaDoorC5
import Derived.Test.YtehoikaiakigfaaDoorM1
import Derived.Test.YtehoikaiakigfaaDoorFwR
import Derived.Test.YtehoikaiakigfaaDoorProg
namespace Go.Fw.P10
open Go Go.RowKit Go.Proofs Go.Nat9 Go.Fw
attribute [local irreducible] JC JL JE
theorem ca4 : callable Tryd.prog 4 = true := by kernel_rfl
theorem ca5 : callable Tryd.prog 5 = true := by kernel_rfl
theorem ca6 : callable Tryd.prog 6 = true := by kernel_rfl
theorem ca7 : callable Tryd.prog 7 = true := by kernel_rfl
theorem ca8 : callable Tryd.prog 8 = true := by kernel_rfl
theorem ca9 : callable Tryd.prog 9 = true := by kernel_rfl
theorem mixed : Tryd.prog.follows .mixedOrders = true := by kernel_rfl
theorem sl22 : slOf Tryd.prog 22 = some (3, 1, 8, [.int .i64 0]) := by kernel_rfl
theorem sl28 : slOf Tryd.prog 28 = some (36, 3, 56, [.bool false, .slice none 0 0, .slice none 0 0]) := by kernel_rfl
theorem ty3 : tyOf Tryd.prog 3 = some (false, 1) := by kernel_rfl
theorem ty36 : tyOf Tryd.prog 36 = some (true, 3) := by kernel_rfl
end Go.Fw.P10
namespace Go.Fw.K
open Go Go.RowKit Go.Proofs Go.Nat9 Go.Fw Go.Fw.P10
attribute [local irreducible] JC JL JE

set_option maxHeartbeats 4000000 in
set_option maxRecDepth 20000 in
theorem isotonicJoins_con {adv adw : Option Addr} {cv cw : Nat} {V W : List Int} (hcv : V.length ≤ cv ∧ cv ≤ 9223372036854775807 ∧ ∀ z ∈ V, -9223372036854775808 ≤ z ∧ z ≤ 9223372036854775807) (hcw : W.length ≤ cw ∧ cw ≤ 9223372036854775807 ∧ ∀ z ∈ W, -9223372036854775808 ≤ z ∧ z ≤ 9223372036854775807) {k0 : Int} (hk1 : -9223372036854775808 ≤ k0) (hk2 : k0 ≤ 9223372036854775807) :
    ConF Tryd.prog 3 [.slice adv V.length cv, .slice adw W.length cw, .int .i64 k0] [vCells adv (i64s V), vCells adw (i64s W)]
      (fun v φo => v = .bool true ∧ φo = []) := by
  have _ := hk1
  have _ := hk2
  refine ConF_of Tryd.func3 rfl 146 _ rfl rfl ?_
  intro w0
  refine JC_norm ⟨146, [], [_, _, _, _, _, _, _, _, _, _, _, _, _, _, _, _, _, _, _, _, _, _, _, _, _, _, _, _, _, _, _, _, _, _, _, _, _, _, _, _, _, _, _, _, _, _, _, _, _, _, _, _, _, _, _, _, _, _, _, _, _, _, _, _, _, _, _, _, _, _, _, _, _, _, _, _, _, _, _, _, _, _, _, _, _, _, _, _, _, _, _, _, _, _, _, _, _, _, _, _, _, _, _, _, _, _, _, _, _, _, _, _, _, _, _, _, _, _, _, _, _, _, _, _, _, _, _, _, _, _, _, _, _, _, _, _, _, _, _, _, _, _, _, _, _, _]⟩ [] [_, _] rfl rfl rfl ?_
  refine JC_seq ?_
  refine JC_region ?_
  refine JL_assign rfl ?_
  refine JL_done_up 146 [] [_, _] rfl rfl (by simp only [nrmF]; rfl) rfl rfl ?_
  refine JC_seq ?_
  refine JC_seq ?_
  refine JC_region ?_
  refine JL_callF' Asks.nil (iawake_con) rfl ca4 rfl ?_
  rintro _ _ ⟨rfl, rfl⟩
  refine JL_not rfl ?_
  rw [Bool.not_true]
  refine JL_move rfl ?_
  refine JL_guard_yes rfl rfl ?_
  refine JL_move rfl ?_
  refine JL_guard_yes rfl rfl ?_
  refine JL_move rfl ?_
  refine JL_guard_yes rfl rfl ?_
  refine JL_callF' (Asks.cons (holds_of_mem (by repeat (first | with_reducible exact mm0 | refine mmS ?_))) (Asks.cons (holds_of_mem (by repeat (first | with_reducible exact mm0 | refine mmS ?_))) Asks.nil)) (few0_con) rfl ca5 ⟨rfl, rfl, rfl, rfl⟩ ?_
  rintro _ _ ⟨rfl, rfl⟩
  refine JL_split (fun h20 => ?_) (fun h20 => ?_)
  · refine JL_guard_yes rfl rfl ?_
    refine JL_not rfl ?_
    rw [Bool.not_true]
    refine JL_pick_f rfl rfl ?_
    refine JL_move rfl ?_
    refine JL_guard_yes rfl rfl ?_
    refine JL_move rfl ?_
    refine JL_guard_yes rfl rfl ?_
    refine JL_move rfl ?_
    refine JL_guard_yes rfl rfl ?_
    refine JL_callF' (Asks.cons (holds_of_mem (by repeat (first | with_reducible exact mm0 | refine mmS ?_))) (Asks.cons (holds_of_mem (by repeat (first | with_reducible exact mm0 | refine mmS ?_))) Asks.nil)) (rdata_con) rfl ca6 ⟨rfl, rfl, rfl⟩ ?_
    rintro _ _ ⟨rfl, rfl⟩
    refine JL_guard_yes rfl rfl ?_
    refine JL_neq rfl rfl ?_
    refine JL_split (fun h27 => ?_) (fun h27 => ?_)
    · refine JL_pick_f rfl rfl ?_
      refine JL_move rfl ?_
      refine JL_guard_no rfl rfl ?_
      refine JL_guard_no rfl rfl ?_
      refine JL_guard_no rfl rfl ?_
      refine JL_pick_t rfl rfl ?_
      refine JL_move rfl ?_
      refine JL_guard_no rfl rfl ?_
      refine JL_guard_no rfl rfl ?_
      refine JL_guard_no rfl rfl ?_
      refine JL_pick_t rfl rfl ?_
      refine JL_done_up 146 [] [_, _] rfl rfl (by simp only [nrmF]; rfl) rfl rfl ?_
      refine JC_true rfl ?_
      refine JC_seq ?_
      refine JC_region ?_
      refine JL_callF' Asks.nil (iawake_con) rfl ca4 rfl ?_
      rintro _ _ ⟨rfl, rfl⟩
      refine JL_assign rfl ?_
      refine JL_done_up 146 [] [_, _] rfl rfl (by simp only [nrmF]; rfl) rfl rfl ?_
      refine JC_ret ?_
      refine JE_then_ret ?_
      refine JE_ret (vs := [_]) [] Tryd.results3 ⟨rfl, rfl⟩ ?_ ?_
      · exact ⟨rfl, rfl⟩
      · exact all_nil
    · refine JL_pick_f rfl rfl ?_
      refine JL_move rfl ?_
      refine JL_guard_yes rfl rfl ?_
      refine JL_move rfl ?_
      refine JL_guard_yes rfl rfl ?_
      refine JL_len sl22 rfl ?_
      refine JL_guard_yes rfl rfl ?_
      refine JL_eql rfl rfl ?_
      refine JL_split (fun h32 => ?_) (fun h32 => ?_)
      · refine JL_pick_f rfl rfl ?_
        refine JL_move rfl ?_
        refine JL_guard_no rfl rfl ?_
        refine JL_guard_no rfl rfl ?_
        refine JL_guard_no rfl rfl ?_
        refine JL_pick_t rfl rfl ?_
        refine JL_done_up 146 [] [_, _] rfl rfl (by simp only [nrmF]; rfl) rfl rfl ?_
        refine JC_true rfl ?_
        refine JC_seq ?_
        refine JC_region ?_
        refine JL_callF' Asks.nil (iawake_con) rfl ca4 rfl ?_
        rintro _ _ ⟨rfl, rfl⟩
        refine JL_assign rfl ?_
        refine JL_done_up 146 [] [_, _] rfl rfl (by simp only [nrmF]; rfl) rfl rfl ?_
        refine JC_ret ?_
        refine JE_then_ret ?_
        refine JE_ret (vs := [_]) [] Tryd.results3 ⟨rfl, rfl⟩ ?_ ?_
        · exact ⟨rfl, rfl⟩
        · exact all_nil
      · refine JL_pick_f rfl rfl ?_
        refine JL_move rfl ?_
        refine JL_guard_yes rfl rfl ?_
        refine JL_move rfl ?_
        refine JL_guard_yes rfl rfl ?_
        refine JL_len sl22 rfl ?_
        refine JL_guard_yes rfl rfl ?_
        refine JL_gtr rfl rfl ?_
        refine JL_split (fun h37 => ?_) (fun h37 => ?_)
        · refine JL_pick_f rfl rfl ?_
          refine JL_done_up 146 [] [_, _] rfl rfl (by simp only [nrmF]; rfl) rfl rfl ?_
          refine JC_true rfl ?_
          refine JC_seq ?_
          refine JC_region ?_
          refine JL_callF' Asks.nil (iawake_con) rfl ca4 rfl ?_
          rintro _ _ ⟨rfl, rfl⟩
          refine JL_assign rfl ?_
          refine JL_done_up 146 [] [_, _] rfl rfl (by simp only [nrmF]; rfl) rfl rfl ?_
          refine JC_ret ?_
          refine JE_then_ret ?_
          refine JE_ret (vs := [_]) [] Tryd.results3 ⟨rfl, rfl⟩ ?_ ?_
          · exact ⟨rfl, rfl⟩
          · exact all_nil
        · refine JL_pick_f rfl rfl ?_
          refine JL_done_up 146 [] [_, _] rfl rfl (by simp only [nrmF]; rfl) rfl rfl ?_
          refine JC_false rfl ?_
          refine JC_skip ?_
          refine JE_then ?_
          refine JC_seq ?_
          have hz : chk V W = 0 := Classical.byContradiction h27
          obtain ⟨hn, hvw, hok⟩ := chk_zero hz
          refine JC_region ?_
          refine JL_move rfl ?_
          refine JL_move rfl ?_
          refine JL_len sl22 rfl ?_
          refine JL_callF' Asks.nil (bmod_con (b := (V.length : Int)) (by omega) (by omega)) rfl ca7 ⟨rfl, rfl, rfl⟩ ?_
          rintro _ _ ⟨rfl, rfl⟩
          refine JL_assign rfl ?_
          refine JL_done_up 146 [] [_, _] rfl rfl (by simp only [nrmF]; rfl) rfl rfl ?_
          refine JC_seq ?_
          refine JC_seq ?_
          have hkn := Int.emod_nonneg k0 (show ((V.length : Nat) : Int) ≠ 0 by omega)
          have hkl := Int.emod_lt_of_pos k0 (show (0 : Int) < ((V.length : Nat) : Int) by omega)
          obtain ⟨k, hk⟩ : ∃ k : Nat, k0 % ((V.length : Nat) : Int) = (k : Int) := ⟨(k0 % ((V.length : Nat) : Int)).toNat, (Int.toNat_of_nonneg hkn).symm⟩
          rw [hk]
          rw [hk] at hkl
          have hkV : k < V.length := by omega
          have hok1 := hok k hkV
          obtain ⟨x1, x2, x3, x4⟩ := hok1
          refine JC_region ?_
          refine JL_move rfl ?_
          refine JL_move rfl ?_
          refine JL_idx k sl22 rfl rfl rfl (by omega) (by first | exact Reads.view (by repeat (first | with_reducible exact mm0 | refine mmS ?_))) (by first | (rw [u32s_length]; omega) | (rw [i64s_length]; omega)) ?_
          refine JL_loadE ty3 rfl (by first | exact Reads.view (by repeat (first | with_reducible exact mm0 | refine mmS ?_))) (i64s_get (by omega)) ?_
          refine JL_lss rfl rfl ?_
          refine JL_split (fun h48 => ?_) (fun h48 => ?_)
          · refine JL_done_up 146 [] [_, _] rfl rfl (by simp only [nrmF]; rfl) rfl rfl ?_
            refine JC_true rfl ?_
            refine JC_seq ?_
            refine JC_region ?_
            refine JL_assign rfl ?_
            refine JL_done_up 146 [] [_, _] rfl rfl (by simp only [nrmF]; rfl) rfl rfl ?_
            refine JC_ret ?_
            refine JE_then_ret ?_
            refine JE_ret (vs := [_]) [] Tryd.results3 ⟨rfl, rfl⟩ ?_ ?_
            · exact ⟨rfl, rfl⟩
            · exact all_nil
          · refine JL_done_up 146 [] [_, _] rfl rfl (by simp only [nrmF]; rfl) rfl rfl ?_
            refine JC_false rfl ?_
            refine JC_skip ?_
            refine JE_then ?_
            refine JC_seq ?_
            have h2 : 2 ≤ W.getD k 0 := by omega
            have h23 : V.length ≤ 23 := by omega
            have htd : (W.getD k 0).tdiv 2 = W.getD k 0 / 2 := Int.tdiv_eq_ediv_of_nonneg (by omega)
            refine JC_viewSubI (ad := adv) (L := V) cv 0 k (by repeat (first | with_reducible exact mm0 | refine mmS ?_)) (by omega) ?_
            rw [subAd_zero, List.drop_zero]
            refine JC_viewSubI (ad := adv) (L := V) cv k V.length (by repeat (first | with_reducible exact mm0 | refine mmS ?_)) (by omega) ?_
            rw [List.take_length]
            refine JC_viewSubI (ad := adw) (L := W) cw 0 k (by repeat (first | with_reducible exact mm0 | refine mmS ?_)) (by omega) ?_
            rw [subAd_zero, List.drop_zero]
            refine JC_viewSubI (ad := adw) (L := W) cw (k + 1) W.length (by repeat (first | with_reducible exact mm0 | refine mmS ?_)) (by omega) ?_
            rw [List.take_length]
            refine JC_addView (f := false) (p := vCells adv (i64s V)) (fun w s => s.views _ (show (false, vCells adv (i64s V)) ∈ _ from (by repeat (first | exact mm0 | refine mmS ?_)))) ?_
            refine JC_addView (f := false) (p := vCells adw (i64s W)) (fun w s => s.views _ (show (false, vCells adw (i64s W)) ∈ _ from (by repeat (first | exact mm0 | refine mmS ?_)))) ?_
            refine JC_drawR mixed 14 [srN 49 [] (ownI 3 _ _), srV 50 [] _, srV 51 [] _, srV 52 [1, 2] _, srW 53 [0, 3] 0 (ownI 3 _ _), srV 54 [] _, srV 55 [] _, srV 56 [5, 6] _, srV 57 [7] _, srC 58 [8] (fun v φo => ∃ g : Nat, v = .slice (some ⟨g, 0, none⟩) 1 1 ∧ φo = [vCells (some ⟨g, 0, none⟩) [.int .i64 (V.getD k 0)]]), srW 59 [4, 9] 4 (ownI 3 _ _), srV 60 [] _, srV 61 [] _, srV 62 [11, 12] _] ⟨OblR_N (fun vals rs ex ψ => (by
                intro _
                refine JL_normG ⟨146, [(49, _), (50, _), (51, _), (52, _), (53, _), (54, _), (55, _), (56, _), (57, _), (58, _), (59, _), (60, _), (61, _), (62, _)], _⟩ (_ :: _ :: _ :: _ :: _ :: _ :: _ :: _ :: ψ) rfl rfl ?_
                refine JL_build0 sl22 (fun g49 => ?_)
                exact JL_nil (JE_stepG (osl (some ⟨g49, 0, none⟩) 0 0 3 1 (i64s [])) rfl rfl (ownI_mk ⟨Nat.le_refl _, Nat.zero_le _⟩) ss0))), OblR_V (fun vals rs ex ψ => (by
                intro _
                refine JL_normQ ⟨146, [(49, _), (50, _), (51, _), (52, _), (53, _), (54, _), (55, _), (56, _), (57, _), (58, _), (59, _), (60, _), (61, _), (62, _)], _⟩ (_ :: _ :: _ :: _ :: _ :: _ :: _ :: _ :: ψ) rfl rfl ?_
                refine JL_move rfl ?_
                exact JL_nil (JE_stepV rfl ss0))), OblR_V (fun vals rs ex ψ => (by
                intro _
                refine JL_normQ ⟨146, [(49, _), (50, _), (51, _), (52, _), (53, _), (54, _), (55, _), (56, _), (57, _), (58, _), (59, _), (60, _), (61, _), (62, _)], _⟩ (_ :: _ :: _ :: _ :: _ :: _ :: _ :: _ :: ψ) rfl rfl ?_
                refine JL_move rfl ?_
                exact JL_nil (JE_stepV rfl ss0))), OblR_V (fun vals rs ex ψ => (by
                intro _
                refine JL_normQ ⟨146, [(49, _), (50, _), (51, _), (52, _), (53, _), (54, _), (55, _), (56, _), (57, _), (58, _), (59, _), (60, _), (61, _), (62, _)], _⟩ (_ :: _ :: _ :: _ :: _ :: _ :: _ :: _ :: ψ) rfl rfl ?_
                refine JL_sliceTo k sl22 rfl rfl (by omega) (by omega) ?_
                exact JL_nil (JE_stepV rfl ss0))), OblR_W (fun vals rs ex ψ => (by
                rintro ⟨⟨ad49, cap49, hv49, hc49, hr49⟩, -⟩
                refine JL_normG ⟨146, [(49, vals 0), (50, _), (51, _), (52, _), (53, _), (54, _), (55, _), (56, _), (57, _), (58, _), (59, _), (60, _), (61, _), (62, _)], _⟩ (_ :: _ :: _ :: _ :: _ :: _ :: _ :: _ :: ψ) rfl rfl ?_
                rw [hv49]
                rw [hr49]
                refine JL_appendIV (L := _) (M := V.take k) 0 sl22 rfl rfl rfl (Reads.view (show (false, vCells adv (i64s (V.take k))) ∈ _ from (by repeat (first | exact mm0 | refine mmS ?_)))) (by rw [List.length_take]; omega) (by omega) (by omega) (fun ad53 cap53 hc53 => ?_)
                exact JL_nil (JE_stepG (osl ad53 _ cap53 3 1 (i64s _)) rfl rfl (ownI_mk hc53) ss0))), OblR_V (fun vals rs ex ψ => (by
                intro _
                refine JL_normQ ⟨146, [(49, _), (50, _), (51, _), (52, _), (53, _), (54, _), (55, _), (56, _), (57, _), (58, _), (59, _), (60, _), (61, _), (62, _)], _⟩ (_ :: _ :: _ :: _ :: _ :: _ :: _ :: _ :: ψ) rfl rfl ?_
                refine JL_move rfl ?_
                exact JL_nil (JE_stepV rfl ss0))), OblR_V (fun vals rs ex ψ => (by
                intro _
                refine JL_normQ ⟨146, [(49, _), (50, _), (51, _), (52, _), (53, _), (54, _), (55, _), (56, _), (57, _), (58, _), (59, _), (60, _), (61, _), (62, _)], _⟩ (_ :: _ :: _ :: _ :: _ :: _ :: _ :: _ :: ψ) rfl rfl ?_
                refine JL_move rfl ?_
                exact JL_nil (JE_stepV rfl ss0))), OblR_V (fun vals rs ex ψ => (by
                intro _
                refine JL_normQ ⟨146, [(49, _), (50, _), (51, _), (52, _), (53, _), (54, _), (55, _), (56, _), (57, _), (58, _), (59, _), (60, _), (61, _), (62, _)], _⟩ (_ :: _ :: _ :: _ :: _ :: _ :: _ :: _ :: ψ) rfl rfl ?_
                refine JL_idx k sl22 rfl rfl rfl (by omega) (by first | exact Reads.view (by repeat (first | with_reducible exact mm0 | refine mmS ?_))) (by first | (rw [u32s_length]; omega) | (rw [i64s_length]; omega)) ?_
                exact JL_nil (JE_stepV rfl ss0))), OblR_V (fun vals rs ex ψ => (by
                intro _
                refine JL_normQ ⟨146, [(49, _), (50, _), (51, _), (52, _), (53, _), (54, _), (55, _), (56, _), (57, _), (58, _), (59, _), (60, _), (61, _), (62, _)], _⟩ (_ :: _ :: _ :: _ :: _ :: _ :: _ :: _ :: ψ) rfl rfl ?_
                refine JL_loadE ty3 rfl (by first | exact Reads.view (by repeat (first | with_reducible exact mm0 | refine mmS ?_))) (i64s_get (by omega)) ?_
                exact JL_nil (JE_stepV rfl ss0))), OblR_C (fun vals rs ex ψ => (by
                intro _
                refine JL_normQ ⟨146, [(49, _), (50, _), (51, _), (52, _), (53, _), (54, _), (55, _), (56, _), (57, _), (58, _), (59, _), (60, _), (61, _), (62, _)], _⟩ (_ :: _ :: _ :: _ :: _ :: _ :: _ :: _ :: ψ) rfl rfl ?_
                refine JL_build1 sl22 rfl rfl (fun g58 => ?_)
                refine JL_giveLast ?_
                exact JL_nil (JE_stepC [vCells (some ⟨g58, 0, none⟩) [.int .i64 (V.getD k 0)]] rfl ⟨g58, rfl, rfl⟩ (all_cons (by repeat (first | exact mm0 | refine mmS ?_)) all_nil) (ssS ss0)))), OblR_W (fun vals rs ex ψ => (by
                rintro ⟨⟨ad53, cap53, hv53, hc53, hr53⟩, -⟩
                refine JL_normG ⟨146, [(49, _), (50, _), (51, _), (52, _), (53, vals 4), (54, _), (55, _), (56, _), (57, _), (58, _), (59, _), (60, _), (61, _), (62, _)], _⟩ (_ :: _ :: _ :: _ :: _ :: _ :: _ :: _ :: _ :: ψ) rfl rfl ?_
                rw [hv53]
                rw [hr53]
                generalize hx58 : vals 9 = x58
                refine JL_usePost mm0 (fun φo hP => ?_)
                obtain ⟨g58, rfl, rfl⟩ := hP
                refine JL_norm _ _ (_ :: _ :: _ :: _ :: _ :: _ :: _ :: _ :: _ :: _ :: ψ) rfl rfl rfl ?_
                refine JL_appendIV (L := _) (M := [V.getD k 0]) 0 sl22 rfl rfl rfl (Reads.view (show (true, vCells (some ⟨g58, 0, none⟩) (i64s [V.getD k 0])) ∈ _ from (by repeat (first | exact mm0 | refine mmS ?_)))) rfl (by omega) (by omega) (fun ad59 cap59 hc59 => ?_)
                exact JL_nil (JE_stepG (osl ad59 _ cap59 3 1 (i64s _)) rfl rfl (ownI_mk hc59) (ssS ss0)))), OblR_V (fun vals rs ex ψ => (by
                intro _
                refine JL_normQ ⟨146, [(49, _), (50, _), (51, _), (52, _), (53, _), (54, _), (55, _), (56, _), (57, _), (58, _), (59, _), (60, _), (61, _), (62, _)], _⟩ (_ :: _ :: _ :: _ :: _ :: _ :: _ :: _ :: ψ) rfl rfl ?_
                refine JL_move rfl ?_
                exact JL_nil (JE_stepV rfl ss0))), OblR_V (fun vals rs ex ψ => (by
                intro _
                refine JL_normQ ⟨146, [(49, _), (50, _), (51, _), (52, _), (53, _), (54, _), (55, _), (56, _), (57, _), (58, _), (59, _), (60, _), (61, _), (62, _)], _⟩ (_ :: _ :: _ :: _ :: _ :: _ :: _ :: _ :: ψ) rfl rfl ?_
                refine JL_move rfl ?_
                exact JL_nil (JE_stepV rfl ss0))), OblR_V (fun vals rs ex ψ => (by
                intro _
                refine JL_normQ ⟨146, [(49, _), (50, _), (51, _), (52, _), (53, _), (54, _), (55, _), (56, _), (57, _), (58, _), (59, _), (60, _), (61, _), (62, _)], _⟩ (_ :: _ :: _ :: _ :: _ :: _ :: _ :: _ :: ψ) rfl rfl ?_
                refine JL_slice k V.length cv sl22 rfl (.some rfl rfl) .none .none (.inl rfl) (by omega) hcv.1 (by omega) ?_
                exact JL_nil (JE_stepV rfl ss0))), trivial⟩ (by kernel_rfl) (fun vals rs => ?_)
            rintro ⟨-, -, ⟨ad59, cap59, hv59, hc59, hr59⟩, -⟩
            refine JL_normL [_, _] ⟨146, [(49, vals 0), (50, _), (51, _), (52, _), (53, vals 4), (54, _), (55, _), (56, _), (57, _), (58, vals 9), (59, vals 10), (60, _), (61, _), (62, _)], _⟩ [rs 10] [_, _, _, _, _, _, _, _, _] rfl rfl rfl rfl ?_
            replace hv59 : vals 10 = _ := hv59
            replace hr59 : rs 10 = _ := hr59
            rw [hv59, hr59]
            refine JL_norm _ [osl _ _ _ _ _ _] [_, _, _, _, _, _, _, _, _] rfl rfl rfl ?_
            refine JL_appendIV (L := _) (M := V.drop k) 0 sl22 rfl rfl rfl (Reads.view (show (false, vCells (subAd adv cv k 1) (i64s (V.drop k))) ∈ _ from (by repeat (first | exact mm0 | refine mmS ?_)))) (List.length_drop) (by omega) (by omega) (fun ad63 cap63 hc63 => ?_)
            refine JL_assign rfl ?_
            refine JL_done_up 146 [osl _ _ _ _ _ _] [_, _, _, _, _, _, _, _, _] rfl rfl (by simp only [nrmF]; rfl) rfl rfl ?_
            refine JC_seq ?_
            rw [show 0 + k + 1 + (V.length - k) = (partX V k).length from by rw [partX_len V hkV]; omega, show ([] ++ V.take k) ++ [V.getD k 0] ++ V.drop k = partX V k from rfl]
            refine JC_drawR mixed 26 [srN 64 [] (ownI 3 _ _), srV 65 [] _, srV 66 [] _, srV 67 [1, 2] _, srW 68 [0, 3] 0 (ownI 3 _ _), srV 69 [] _, srV 70 [] _, srV 71 [5, 6] _, srV 72 [7] _, srV 73 [8] _, srV 74 [] _, srV 75 [] _, srV 76 [10, 11] _, srV 77 [12] _, srV 78 [] _, srV 79 [] _, srV 80 [14, 15] _, srV 81 [16] _, srV 82 [17] _, srV 83 [13, 18] _, srC 84 [9, 19] (fun v φo => ∃ g : Nat, v = .slice (some ⟨g, 0, none⟩) 2 2 ∧ φo = [vCells (some ⟨g, 0, none⟩) [.int .i64 ((W.getD k 0).tdiv 2), .int .i64 (W.getD k 0 - (W.getD k 0).tdiv 2)]]), srW 85 [4, 20] 4 (ownI 3 _ _), srV 86 [] _, srV 87 [] _, srV 88 [23] _, srV 89 [22, 24] _] ⟨OblR_N (fun vals rs ex ψ => (by
                intro _
                refine JL_normG ⟨146, [(64, _), (65, _), (66, _), (67, _), (68, _), (69, _), (70, _), (71, _), (72, _), (73, _), (74, _), (75, _), (76, _), (77, _), (78, _), (79, _), (80, _), (81, _), (82, _), (83, _), (84, _), (85, _), (86, _), (87, _), (88, _), (89, _)], _⟩ (_ :: _ :: _ :: _ :: _ :: _ :: _ :: _ :: _ :: ψ) rfl rfl ?_
                refine JL_build0 sl22 (fun g64 => ?_)
                exact JL_nil (JE_stepG (osl (some ⟨g64, 0, none⟩) 0 0 3 1 (i64s [])) rfl rfl (ownI_mk ⟨Nat.le_refl _, Nat.zero_le _⟩) ss0))), OblR_V (fun vals rs ex ψ => (by
                intro _
                refine JL_normQ ⟨146, [(64, _), (65, _), (66, _), (67, _), (68, _), (69, _), (70, _), (71, _), (72, _), (73, _), (74, _), (75, _), (76, _), (77, _), (78, _), (79, _), (80, _), (81, _), (82, _), (83, _), (84, _), (85, _), (86, _), (87, _), (88, _), (89, _)], _⟩ (_ :: _ :: _ :: _ :: _ :: _ :: _ :: _ :: _ :: ψ) rfl rfl ?_
                refine JL_move rfl ?_
                exact JL_nil (JE_stepV rfl ss0))), OblR_V (fun vals rs ex ψ => (by
                intro _
                refine JL_normQ ⟨146, [(64, _), (65, _), (66, _), (67, _), (68, _), (69, _), (70, _), (71, _), (72, _), (73, _), (74, _), (75, _), (76, _), (77, _), (78, _), (79, _), (80, _), (81, _), (82, _), (83, _), (84, _), (85, _), (86, _), (87, _), (88, _), (89, _)], _⟩ (_ :: _ :: _ :: _ :: _ :: _ :: _ :: _ :: _ :: ψ) rfl rfl ?_
                refine JL_move rfl ?_
                exact JL_nil (JE_stepV rfl ss0))), OblR_V (fun vals rs ex ψ => (by
                intro _
                refine JL_normQ ⟨146, [(64, _), (65, _), (66, _), (67, _), (68, _), (69, _), (70, _), (71, _), (72, _), (73, _), (74, _), (75, _), (76, _), (77, _), (78, _), (79, _), (80, _), (81, _), (82, _), (83, _), (84, _), (85, _), (86, _), (87, _), (88, _), (89, _)], _⟩ (_ :: _ :: _ :: _ :: _ :: _ :: _ :: _ :: _ :: ψ) rfl rfl ?_
                refine JL_sliceTo k sl22 rfl rfl (by omega) (by omega) ?_
                exact JL_nil (JE_stepV rfl ss0))), OblR_W (fun vals rs ex ψ => (by
                rintro ⟨⟨ad64, cap64, hv64, hc64, hr64⟩, -⟩
                refine JL_normG ⟨146, [(64, vals 0), (65, _), (66, _), (67, _), (68, _), (69, _), (70, _), (71, _), (72, _), (73, _), (74, _), (75, _), (76, _), (77, _), (78, _), (79, _), (80, _), (81, _), (82, _), (83, _), (84, _), (85, _), (86, _), (87, _), (88, _), (89, _)], _⟩ (_ :: _ :: _ :: _ :: _ :: _ :: _ :: _ :: _ :: ψ) rfl rfl ?_
                rw [hv64]
                rw [hr64]
                refine JL_appendIV (L := _) (M := W.take k) 1 sl22 rfl rfl rfl (Reads.view (show (false, vCells adw (i64s (W.take k))) ∈ _ from (by repeat (first | exact mm0 | refine mmS ?_)))) (by rw [List.length_take]; omega) (by omega) (by omega) (fun ad68 cap68 hc68 => ?_)
                exact JL_nil (JE_stepG (osl ad68 _ cap68 3 1 (i64s _)) rfl rfl (ownI_mk hc68) ss0))), OblR_V (fun vals rs ex ψ => (by
                intro _
                refine JL_normQ ⟨146, [(64, _), (65, _), (66, _), (67, _), (68, _), (69, _), (70, _), (71, _), (72, _), (73, _), (74, _), (75, _), (76, _), (77, _), (78, _), (79, _), (80, _), (81, _), (82, _), (83, _), (84, _), (85, _), (86, _), (87, _), (88, _), (89, _)], _⟩ (_ :: _ :: _ :: _ :: _ :: _ :: _ :: _ :: _ :: ψ) rfl rfl ?_
                refine JL_move rfl ?_
                exact JL_nil (JE_stepV rfl ss0))), OblR_V (fun vals rs ex ψ => (by
                intro _
                refine JL_normQ ⟨146, [(64, _), (65, _), (66, _), (67, _), (68, _), (69, _), (70, _), (71, _), (72, _), (73, _), (74, _), (75, _), (76, _), (77, _), (78, _), (79, _), (80, _), (81, _), (82, _), (83, _), (84, _), (85, _), (86, _), (87, _), (88, _), (89, _)], _⟩ (_ :: _ :: _ :: _ :: _ :: _ :: _ :: _ :: _ :: ψ) rfl rfl ?_
                refine JL_move rfl ?_
                exact JL_nil (JE_stepV rfl ss0))), OblR_V (fun vals rs ex ψ => (by
                intro _
                refine JL_normQ ⟨146, [(64, _), (65, _), (66, _), (67, _), (68, _), (69, _), (70, _), (71, _), (72, _), (73, _), (74, _), (75, _), (76, _), (77, _), (78, _), (79, _), (80, _), (81, _), (82, _), (83, _), (84, _), (85, _), (86, _), (87, _), (88, _), (89, _)], _⟩ (_ :: _ :: _ :: _ :: _ :: _ :: _ :: _ :: _ :: ψ) rfl rfl ?_
                refine JL_idx k sl22 rfl rfl rfl (by omega) (by first | exact Reads.view (by repeat (first | with_reducible exact mm0 | refine mmS ?_)) | (exact Reads.own 0 rfl)) (by first | (rw [u32s_length]; omega) | (rw [i64s_length]; omega)) ?_
                exact JL_nil (JE_stepV rfl ss0))), OblR_V (fun vals rs ex ψ => (by
                intro _
                refine JL_normQ ⟨146, [(64, _), (65, _), (66, _), (67, _), (68, _), (69, _), (70, _), (71, _), (72, _), (73, _), (74, _), (75, _), (76, _), (77, _), (78, _), (79, _), (80, _), (81, _), (82, _), (83, _), (84, _), (85, _), (86, _), (87, _), (88, _), (89, _)], _⟩ (_ :: _ :: _ :: _ :: _ :: _ :: _ :: _ :: _ :: ψ) rfl rfl ?_
                refine JL_loadE ty3 rfl (by first | exact Reads.view (by repeat (first | with_reducible exact mm0 | refine mmS ?_)) | (exact Reads.own 0 rfl)) (i64s_get (by omega)) ?_
                exact JL_nil (JE_stepV rfl ss0))), OblR_V (fun vals rs ex ψ => (by
                intro _
                refine JL_normQ ⟨146, [(64, _), (65, _), (66, _), (67, _), (68, _), (69, _), (70, _), (71, _), (72, _), (73, _), (74, _), (75, _), (76, _), (77, _), (78, _), (79, _), (80, _), (81, _), (82, _), (83, _), (84, _), (85, _), (86, _), (87, _), (88, _), (89, _)], _⟩ (_ :: _ :: _ :: _ :: _ :: _ :: _ :: _ :: _ :: ψ) rfl rfl ?_
                refine JL_quo_to rfl rfl (by omega) (IntWalk.i64_quo' _ _ (by omega)) ?_
                exact JL_nil (JE_stepV rfl ss0))), OblR_V (fun vals rs ex ψ => (by
                intro _
                refine JL_normQ ⟨146, [(64, _), (65, _), (66, _), (67, _), (68, _), (69, _), (70, _), (71, _), (72, _), (73, _), (74, _), (75, _), (76, _), (77, _), (78, _), (79, _), (80, _), (81, _), (82, _), (83, _), (84, _), (85, _), (86, _), (87, _), (88, _), (89, _)], _⟩ (_ :: _ :: _ :: _ :: _ :: _ :: _ :: _ :: _ :: ψ) rfl rfl ?_
                refine JL_move rfl ?_
                exact JL_nil (JE_stepV rfl ss0))), OblR_V (fun vals rs ex ψ => (by
                intro _
                refine JL_normQ ⟨146, [(64, _), (65, _), (66, _), (67, _), (68, _), (69, _), (70, _), (71, _), (72, _), (73, _), (74, _), (75, _), (76, _), (77, _), (78, _), (79, _), (80, _), (81, _), (82, _), (83, _), (84, _), (85, _), (86, _), (87, _), (88, _), (89, _)], _⟩ (_ :: _ :: _ :: _ :: _ :: _ :: _ :: _ :: _ :: ψ) rfl rfl ?_
                refine JL_move rfl ?_
                exact JL_nil (JE_stepV rfl ss0))), OblR_V (fun vals rs ex ψ => (by
                intro _
                refine JL_normQ ⟨146, [(64, _), (65, _), (66, _), (67, _), (68, _), (69, _), (70, _), (71, _), (72, _), (73, _), (74, _), (75, _), (76, _), (77, _), (78, _), (79, _), (80, _), (81, _), (82, _), (83, _), (84, _), (85, _), (86, _), (87, _), (88, _), (89, _)], _⟩ (_ :: _ :: _ :: _ :: _ :: _ :: _ :: _ :: _ :: ψ) rfl rfl ?_
                refine JL_idx k sl22 rfl rfl rfl (by omega) (by first | exact Reads.view (by repeat (first | with_reducible exact mm0 | refine mmS ?_)) | (exact Reads.own 0 rfl)) (by first | (rw [u32s_length]; omega) | (rw [i64s_length]; omega)) ?_
                exact JL_nil (JE_stepV rfl ss0))), OblR_V (fun vals rs ex ψ => (by
                intro _
                refine JL_normQ ⟨146, [(64, _), (65, _), (66, _), (67, _), (68, _), (69, _), (70, _), (71, _), (72, _), (73, _), (74, _), (75, _), (76, _), (77, _), (78, _), (79, _), (80, _), (81, _), (82, _), (83, _), (84, _), (85, _), (86, _), (87, _), (88, _), (89, _)], _⟩ (_ :: _ :: _ :: _ :: _ :: _ :: _ :: _ :: _ :: ψ) rfl rfl ?_
                refine JL_loadE ty3 rfl (by first | exact Reads.view (by repeat (first | with_reducible exact mm0 | refine mmS ?_)) | (exact Reads.own 0 rfl)) (i64s_get (by omega)) ?_
                exact JL_nil (JE_stepV rfl ss0))), OblR_V (fun vals rs ex ψ => (by
                intro _
                refine JL_normQ ⟨146, [(64, _), (65, _), (66, _), (67, _), (68, _), (69, _), (70, _), (71, _), (72, _), (73, _), (74, _), (75, _), (76, _), (77, _), (78, _), (79, _), (80, _), (81, _), (82, _), (83, _), (84, _), (85, _), (86, _), (87, _), (88, _), (89, _)], _⟩ (_ :: _ :: _ :: _ :: _ :: _ :: _ :: _ :: _ :: ψ) rfl rfl ?_
                refine JL_move rfl ?_
                exact JL_nil (JE_stepV rfl ss0))), OblR_V (fun vals rs ex ψ => (by
                intro _
                refine JL_normQ ⟨146, [(64, _), (65, _), (66, _), (67, _), (68, _), (69, _), (70, _), (71, _), (72, _), (73, _), (74, _), (75, _), (76, _), (77, _), (78, _), (79, _), (80, _), (81, _), (82, _), (83, _), (84, _), (85, _), (86, _), (87, _), (88, _), (89, _)], _⟩ (_ :: _ :: _ :: _ :: _ :: _ :: _ :: _ :: _ :: ψ) rfl rfl ?_
                refine JL_move rfl ?_
                exact JL_nil (JE_stepV rfl ss0))), OblR_V (fun vals rs ex ψ => (by
                intro _
                refine JL_normQ ⟨146, [(64, _), (65, _), (66, _), (67, _), (68, _), (69, _), (70, _), (71, _), (72, _), (73, _), (74, _), (75, _), (76, _), (77, _), (78, _), (79, _), (80, _), (81, _), (82, _), (83, _), (84, _), (85, _), (86, _), (87, _), (88, _), (89, _)], _⟩ (_ :: _ :: _ :: _ :: _ :: _ :: _ :: _ :: _ :: ψ) rfl rfl ?_
                refine JL_idx k sl22 rfl rfl rfl (by omega) (by first | exact Reads.view (by repeat (first | with_reducible exact mm0 | refine mmS ?_)) | (exact Reads.own 0 rfl)) (by first | (rw [u32s_length]; omega) | (rw [i64s_length]; omega)) ?_
                exact JL_nil (JE_stepV rfl ss0))), OblR_V (fun vals rs ex ψ => (by
                intro _
                refine JL_normQ ⟨146, [(64, _), (65, _), (66, _), (67, _), (68, _), (69, _), (70, _), (71, _), (72, _), (73, _), (74, _), (75, _), (76, _), (77, _), (78, _), (79, _), (80, _), (81, _), (82, _), (83, _), (84, _), (85, _), (86, _), (87, _), (88, _), (89, _)], _⟩ (_ :: _ :: _ :: _ :: _ :: _ :: _ :: _ :: _ :: ψ) rfl rfl ?_
                refine JL_loadE ty3 rfl (by first | exact Reads.view (by repeat (first | with_reducible exact mm0 | refine mmS ?_)) | (exact Reads.own 0 rfl)) (i64s_get (by omega)) ?_
                exact JL_nil (JE_stepV rfl ss0))), OblR_V (fun vals rs ex ψ => (by
                intro _
                refine JL_normQ ⟨146, [(64, _), (65, _), (66, _), (67, _), (68, _), (69, _), (70, _), (71, _), (72, _), (73, _), (74, _), (75, _), (76, _), (77, _), (78, _), (79, _), (80, _), (81, _), (82, _), (83, _), (84, _), (85, _), (86, _), (87, _), (88, _), (89, _)], _⟩ (_ :: _ :: _ :: _ :: _ :: _ :: _ :: _ :: _ :: ψ) rfl rfl ?_
                refine JL_quo_to rfl rfl (by omega) (IntWalk.i64_quo' _ _ (by omega)) ?_
                exact JL_nil (JE_stepV rfl ss0))), OblR_V (fun vals rs ex ψ => (by
                intro _
                refine JL_normQ ⟨146, [(64, _), (65, _), (66, _), (67, _), (68, _), (69, _), (70, _), (71, _), (72, _), (73, _), (74, _), (75, _), (76, _), (77, _), (78, _), (79, _), (80, _), (81, _), (82, _), (83, _), (84, _), (85, _), (86, _), (87, _), (88, _), (89, _)], _⟩ (_ :: _ :: _ :: _ :: _ :: _ :: _ :: _ :: _ :: ψ) rfl rfl ?_
                refine JL_sub_to rfl rfl (IntWalk.i64_in _ (by omega)) ?_
                exact JL_nil (JE_stepV rfl ss0))), OblR_C (fun vals rs ex ψ => (by
                intro _
                refine JL_normQ ⟨146, [(64, _), (65, _), (66, _), (67, _), (68, _), (69, _), (70, _), (71, _), (72, _), (73, _), (74, _), (75, _), (76, _), (77, _), (78, _), (79, _), (80, _), (81, _), (82, _), (83, _), (84, _), (85, _), (86, _), (87, _), (88, _), (89, _)], _⟩ (_ :: _ :: _ :: _ :: _ :: _ :: _ :: _ :: _ :: ψ) rfl rfl ?_
                refine JL_buildN (cs0 := [.int .i64 0, .int .i64 0]) (cs := [_, _]) [(0, [_]), (1, [_])] sl22 (by kernel_rfl) ⟨⟨rfl, _, rfl, rfl⟩, ⟨rfl, _, rfl, rfl⟩, rfl⟩ rfl rfl rfl rfl (fun g84 => ?_)
                refine JL_giveLast ?_
                exact JL_nil (JE_stepC [vCells (some ⟨g84, 0, none⟩) [.int .i64 ((W.getD k 0).tdiv 2), .int .i64 (W.getD k 0 - (W.getD k 0).tdiv 2)]] rfl ⟨g84, rfl, rfl⟩ (all_cons (by repeat (first | exact mm0 | refine mmS ?_)) all_nil) (ssS ss0)))), OblR_W (fun vals rs ex ψ => (by
                rintro ⟨⟨ad68, cap68, hv68, hc68, hr68⟩, -⟩
                refine JL_normG ⟨146, [(64, _), (65, _), (66, _), (67, _), (68, vals 4), (69, _), (70, _), (71, _), (72, _), (73, _), (74, _), (75, _), (76, _), (77, _), (78, _), (79, _), (80, _), (81, _), (82, _), (83, _), (84, _), (85, _), (86, _), (87, _), (88, _), (89, _)], _⟩ (_ :: _ :: _ :: _ :: _ :: _ :: _ :: _ :: _ :: _ :: ψ) rfl rfl ?_
                rw [hv68]
                rw [hr68]
                generalize hx84 : vals 20 = x84
                refine JL_usePost mm0 (fun φo hP => ?_)
                obtain ⟨g84, rfl, rfl⟩ := hP
                refine JL_norm _ _ (_ :: _ :: _ :: _ :: _ :: _ :: _ :: _ :: _ :: _ :: _ :: ψ) rfl rfl rfl ?_
                refine JL_appendIV (L := _) (M := [(W.getD k 0).tdiv 2, W.getD k 0 - (W.getD k 0).tdiv 2]) 1 sl22 rfl rfl rfl (Reads.view (show (true, vCells (some ⟨g84, 0, none⟩) (i64s [(W.getD k 0).tdiv 2, W.getD k 0 - (W.getD k 0).tdiv 2])) ∈ _ from (by repeat (first | exact mm0 | refine mmS ?_)))) rfl (by omega) (by omega) (fun ad85 cap85 hc85 => ?_)
                exact JL_nil (JE_stepG (osl ad85 _ cap85 3 1 (i64s _)) rfl rfl (ownI_mk hc85) (ssS ss0)))), OblR_V (fun vals rs ex ψ => (by
                intro _
                refine JL_normQ ⟨146, [(64, _), (65, _), (66, _), (67, _), (68, _), (69, _), (70, _), (71, _), (72, _), (73, _), (74, _), (75, _), (76, _), (77, _), (78, _), (79, _), (80, _), (81, _), (82, _), (83, _), (84, _), (85, _), (86, _), (87, _), (88, _), (89, _)], _⟩ (_ :: _ :: _ :: _ :: _ :: _ :: _ :: _ :: _ :: ψ) rfl rfl ?_
                refine JL_move rfl ?_
                exact JL_nil (JE_stepV rfl ss0))), OblR_V (fun vals rs ex ψ => (by
                intro _
                refine JL_normQ ⟨146, [(64, _), (65, _), (66, _), (67, _), (68, _), (69, _), (70, _), (71, _), (72, _), (73, _), (74, _), (75, _), (76, _), (77, _), (78, _), (79, _), (80, _), (81, _), (82, _), (83, _), (84, _), (85, _), (86, _), (87, _), (88, _), (89, _)], _⟩ (_ :: _ :: _ :: _ :: _ :: _ :: _ :: _ :: _ :: ψ) rfl rfl ?_
                refine JL_move rfl ?_
                exact JL_nil (JE_stepV rfl ss0))), OblR_V (fun vals rs ex ψ => (by
                intro _
                refine JL_normQ ⟨146, [(64, _), (65, _), (66, _), (67, _), (68, _), (69, _), (70, _), (71, _), (72, _), (73, _), (74, _), (75, _), (76, _), (77, _), (78, _), (79, _), (80, _), (81, _), (82, _), (83, _), (84, _), (85, _), (86, _), (87, _), (88, _), (89, _)], _⟩ (_ :: _ :: _ :: _ :: _ :: _ :: _ :: _ :: _ :: ψ) rfl rfl ?_
                refine JL_add_to rfl rfl (IntWalk.i64_in _ (by omega)) ?_
                exact JL_nil (JE_stepV rfl ss0))), OblR_V (fun vals rs ex ψ => (by
                intro _
                refine JL_normQ ⟨146, [(64, _), (65, _), (66, _), (67, _), (68, _), (69, _), (70, _), (71, _), (72, _), (73, _), (74, _), (75, _), (76, _), (77, _), (78, _), (79, _), (80, _), (81, _), (82, _), (83, _), (84, _), (85, _), (86, _), (87, _), (88, _), (89, _)], _⟩ (_ :: _ :: _ :: _ :: _ :: _ :: _ :: _ :: _ :: ψ) rfl rfl ?_
                refine JL_slice (k + 1) W.length cw sl22 rfl (.some rfl rfl) .none .none (.inl rfl) (by omega) hcw.1 (by omega) ?_
                exact JL_nil (JE_stepV rfl ss0))), trivial⟩ (by kernel_rfl) (fun vals rs => ?_)
            rintro ⟨-, -, ⟨ad85, cap85, hv85, hc85, hr85⟩, -⟩
            refine JL_normL [_, _] ⟨146, [(64, vals 0), (65, _), (66, _), (67, _), (68, vals 4), (69, _), (70, _), (71, _), (72, _), (73, _), (74, _), (75, _), (76, _), (77, _), (78, _), (79, _), (80, _), (81, _), (82, _), (83, _), (84, vals 20), (85, vals 21), (86, _), (87, _), (88, _), (89, _)], _⟩ [osl _ _ _ _ _ _, rs 21] [_, _, _, _, _, _, _, _, _, _] rfl rfl rfl rfl ?_
            replace hv85 : vals 21 = _ := hv85
            replace hr85 : rs 21 = _ := hr85
            rw [hv85, hr85]
            refine JL_norm _ [osl _ _ _ _ _ _, osl _ _ _ _ _ _] [_, _, _, _, _, _, _, _, _, _] rfl rfl rfl ?_
            refine JL_appendIV (L := _) (M := W.drop (k + 1)) 1 sl22 rfl rfl rfl (Reads.view (show (false, vCells (subAd adw cw (k + 1) 1) (i64s (W.drop (k + 1)))) ∈ _ from (by repeat (first | exact mm0 | refine mmS ?_)))) (List.length_drop) (by omega) (by omega) (fun ad90 cap90 hc90 => ?_)
            refine JL_assign rfl ?_
            refine JL_done_up 146 [osl _ _ _ _ _ _, osl _ _ _ _ _ _] [_, _, _, _, _, _, _, _, _, _] rfl rfl (by simp only [nrmF]; rfl) rfl rfl ?_
            refine JC_seq ?_
            rw [show 0 + k + 2 + (W.length - (k + 1)) = (partY W k).length from by rw [partY_len W (by omega)]; omega, show ([] ++ W.take k) ++ [(W.getD k 0).tdiv 2, W.getD k 0 - (W.getD k 0).tdiv 2] ++ W.drop (k + 1) = partY W k from rfl]
            refine JC_region ?_
            refine JL_move rfl ?_
            refine JL_move rfl ?_
            refine JL_callF' (Asks.cons (by first | exact holds_of_mem (by repeat (first | with_reducible exact mm0 | refine mmS ?_)) | (exact holds_of_own 0 rfl) | (exact holds_of_own 1 rfl)) (Asks.cons (by first | exact holds_of_mem (by repeat (first | with_reducible exact mm0 | refine mmS ?_)) | (exact holds_of_own 0 rfl) | (exact holds_of_own 1 rfl)) Asks.nil)) (ifit_con) rfl ca8 ⟨rfl, rfl, rfl⟩ ?_
            rintro _ _ ⟨ad94, c94, l94, rfl, hl94, rfl⟩
            rw [hz]
            have hn94 := fes_flen hz hl94
            refine JL_move rfl ?_
            refine JL_extract rfl rfl ?_
            refine JL_extract rfl rfl ?_
            refine JL_assign rfl ?_
            refine JL_assign rfl ?_
            refine JL_done_up 146 [osl _ _ _ _ _ _, osl _ _ _ _ _ _] [_, _, _, _, _, _, _, _, _, _, _, _] rfl rfl (by simp only [nrmF]; rfl) rfl rfl ?_
            refine JC_seq ?_
            refine JC_region ?_
            refine JL_move rfl ?_
            refine JL_move rfl ?_
            refine JL_give 0 rfl ?_
            refine JL_norm _ [osl _ _ _ _ _ _] [_, _, _, _, _, _, _, _, _, _, _, _, _] rfl rfl rfl ?_
            refine JL_give 0 rfl ?_
            refine JL_norm _ [] [_, _, _, _, _, _, _, _, _, _, _, _, _, _] rfl rfl rfl ?_
            refine JL_callF' (Asks.cons (holds_of_mem (by repeat (first | with_reducible exact mm0 | refine mmS ?_))) (Asks.cons (holds_of_mem (by repeat (first | with_reducible exact mm0 | refine mmS ?_))) Asks.nil)) (ifit_con (V := partX V k) (W := partY W k)) rfl ca8 ⟨rfl, rfl, rfl⟩ ?_
            rintro _ _ ⟨ad100, c100, l100, rfl, hl100, rfl⟩
            rw [part_chk hz hkV h2 h23]
            have hn100 := fes_flen (part_chk hz hkV h2 h23) hl100
            rw [partX_len V hkV] at hn100
            refine JL_move rfl ?_
            refine JL_extract rfl rfl ?_
            refine JL_extract rfl rfl ?_
            refine JL_assign rfl ?_
            refine JL_assign rfl ?_
            refine JL_done_up 146 [] [_, _, _, _, _, _, _, _, _, _, _, _, _, _, _, _] rfl rfl (by simp only [nrmF]; rfl) rfl rfl ?_
            refine JC_seq ?_
            refine JC_seq ?_
            refine JC_region ?_
            refine JL_move rfl ?_
            refine JL_neq rfl rfl ?_
            refine JL_split (fun h104 => ?_) (fun h104 => ?_)
            · exact absurd rfl h104
            · refine JL_move rfl ?_
              refine JL_guard_yes rfl rfl ?_
              refine JL_move rfl ?_
              refine JL_guard_yes rfl rfl ?_
              refine JL_neq rfl rfl ?_
              refine JL_split (fun h107 => ?_) (fun h107 => ?_)
              · exact absurd rfl h107
              · refine JL_pick_f rfl rfl ?_
                refine JL_move rfl ?_
                refine JL_guard_yes rfl rfl ?_
                refine JL_move rfl ?_
                refine JL_guard_yes rfl rfl ?_
                refine JL_len sl28 rfl ?_
                refine JL_guard_yes rfl rfl ?_
                refine JL_move rfl ?_
                refine JL_guard_yes rfl rfl ?_
                refine JL_len sl22 rfl ?_
                refine JL_guard_yes rfl rfl ?_
                refine JL_neq rfl rfl ?_
                refine JL_split (fun h114 => ?_) (fun h114 => ?_)
                · exact absurd hn94 (by omega)
                · refine JL_pick_f rfl rfl ?_
                  refine JL_move rfl ?_
                  refine JL_guard_yes rfl rfl ?_
                  refine JL_move rfl ?_
                  refine JL_guard_yes rfl rfl ?_
                  refine JL_len sl28 rfl ?_
                  refine JL_guard_yes rfl rfl ?_
                  refine JL_move rfl ?_
                  refine JL_guard_yes rfl rfl ?_
                  refine JL_len sl22 rfl ?_
                  refine JL_guard_yes rfl rfl ?_
                  refine JL_add_to rfl rfl (IntWalk.i64_in _ (by omega)) ?_
                  refine JL_guard_yes rfl rfl ?_
                  refine JL_neq rfl rfl ?_
                  refine JL_split (fun h122 => ?_) (fun h122 => ?_)
                  · exact absurd hn100 (by omega)
                  · refine JL_pick_f rfl rfl ?_
                    refine JL_done_up 146 [] [_, _, _, _, _, _, _, _, _, _, _, _, _, _, _, _] rfl rfl (by simp only [nrmF]; rfl) rfl rfl ?_
                    refine JC_false rfl ?_
                    refine JC_skip ?_
                    refine JE_then ?_
                    refine JC_seq ?_
                    refine JC_seq ?_
                    refine JC_region ?_
                    refine JL_assign rfl ?_
                    refine JL_done_up 146 [] [_, _, _, _, _, _, _, _, _, _, _, _, _, _, _, _] rfl rfl (by simp only [nrmF]; rfl) rfl rfl ?_
                    refine JC_block ?_
                    refine JC_loopS ((Nat)) (fun (i : Nat) => i ≤ V.length + 1) (fun (i : Nat) => V.length + 1 - i) (fun u (i : Nat) => [none, none, none, none, none, none, some (u 6), none, none, none, none, none, none, some (.int .i64 (i : Nat)), some (u 14), none, none, none, none, none, none, none, none, none, none, none, none, none, none, none, none, none, none, none, none, none, none, none, none, none, none, none, none, none, none, none, none, none, none, none, none, none, none, none, none, none, none, none, none, none, none, none, none, none, none, none, none, none, none, none, none, none, none, none, none, none, none, none, none, none, none, none, none, none, none, none, none, none, none, none, none, none, none, none, none, none, none, none, none, none, none, none, none, none, none, none, none, none, none, none, none, none, none, none, none, none, none, none, none, none, none, none, none, none, some (u 124), some (u 125), some (u 126), some (u 127), some (u 128), some (u 129), some (u 130), some (u 131), some (u 132), some (u 133), some (u 134), some (u 135), some (u 136), some (u 137), some (u 138), some (u 139), some (u 140), some (u 141), some (u 142), some (u 143), some (u 144), some (u 145)]) (fun (i : Nat) => []) (fun (i : Nat) => []) (0) (by kernel_rfl) ?_ (by kernel_rfl) ?_ ?_
                    · exact Nat.zero_le _
                    · exact subset_nil
                    intro u i hi
                    refine JC_norm ⟨146, [], [_, _, _, _, _, _, _, _, _, _, _, _, _, _, _, _, _, _, _, _, _, _, _, _, _, _, _, _, _, _, _, _, _, _, _, _, _, _, _, _, _, _, _, _, _, _, _, _, _, _, _, _, _, _, _, _, _, _, _, _, _, _, _, _, _, _, _, _, _, _, _, _, _, _, _, _, _, _, _, _, _, _, _, _, _, _, _, _, _, _, _, _, _, _, _, _, _, _, _, _, _, _, _, _, _, _, _, _, _, _, _, _, _, _, _, _, _, _, _, _, _, _, _, _, _, _, _, _, _, _, _, _, _, _, _, _, _, _, _, _, _, _, _, _, _, _]⟩ [] [_, _, _, _, _, _, _, _, _, _, _, _, _, _, _, _] rfl rfl rfl ?_
                    refine JC_seq ?_
                    refine JC_seq ?_
                    refine JC_region ?_
                    refine JL_move rfl ?_
                    refine JL_move rfl ?_
                    refine JL_len sl28 rfl ?_
                    refine JL_lss rfl rfl ?_
                    refine JL_split (fun h127 => ?_) (fun h127 => ?_)
                    · refine JL_done_up 146 [] [_, _, _, _, _, _, _, _, _, _, _, _, _, _, _, _] rfl rfl (by simp only [nrmF]; rfl) rfl rfl ?_
                      refine JC_true rfl ?_
                      refine JC_skip ?_
                      refine JE_then ?_
                      refine JC_seq ?_
                      refine JC_block ?_
                      refine JC_seq ?_
                      refine JC_region ?_
                      refine JL_move rfl ?_
                      refine JL_assign rfl ?_
                      refine JL_done_up 146 [] [_, _, _, _, _, _, _, _, _, _, _, _, _, _, _, _] rfl rfl (by simp only [nrmF]; rfl) rfl rfl ?_
                      refine JC_seq ?_
                      refine JC_seq ?_
                      refine JC_region ?_
                      refine JL_move rfl ?_
                      refine JL_move rfl ?_
                      refine JL_gtr rfl rfl ?_
                      refine JL_done_up 146 [] [_, _, _, _, _, _, _, _, _, _, _, _, _, _, _, _] rfl rfl (by simp only [nrmF]; rfl) rfl rfl ?_
                      refine JC_cutT ((Nat)) (fun (a : Nat) => a = (if i ≤ k then i else i - 1)) (fun u (a : Nat) => [none, none, none, none, none, none, none, none, none, none, none, none, none, none, some (.int .i64 (a : Nat)), none, none, none, none, none, none, none, none, none, none, none, none, none, none, none, none, none, none, none, none, none, none, none, none, none, none, none, none, none, none, none, none, none, none, none, none, none, none, none, none, none, none, none, none, none, none, none, none, none, none, none, none, none, none, none, none, none, none, none, none, none, none, none, none, none, none, none, none, none, none, none, none, none, none, none, none, none, none, none, none, none, none, none, none, none, none, none, none, none, none, none, none, none, none, none, none, none, none, none, none, none, none, none, none, none, none, none, none, none, none, none, none, none, none, none, none, none, none, none, some (u 134), some (u 135), none, none, none, none, none, none, none, none, none, none]) (fun (a : Nat) => []) (fun (a : Nat) => []) ?_ ?_
                      · refine JC_cond rfl (fun hb => ?_) (fun hb => ?_)
                        · have h133 := of_decide_eq_true hb
                          refine JC_region ?_
                          refine JL_move rfl ?_
                          refine JL_sub_to rfl rfl (IntWalk.i64_in _ (by omega)) ?_
                          rw [show ((i : Int) - 1 : Int) = ((i - 1 : Nat) : Int) from by omega]
                          refine JL_assign rfl ?_
                          refine JL_nil_up 146 [] [_, _, _, _, _, _, _, _, _, _, _, _, _, _, _, _] rfl rfl (by simp only [nrmF]; rfl) rfl rfl ?_
                          refine JE_midS (i - 1) (by kernel_rfl) ?_ (by kernel_rfl) ?_
                          · exact (if_neg (by omega)).symm
                          · exact subset_app subset_nil ss0
                        · have h133 := of_decide_eq_false hb
                          refine JC_skip ?_
                          refine JE_midS (i) (by kernel_rfl) ?_ (by kernel_rfl) ?_
                          · exact (if_pos (by omega)).symm
                          · exact subset_app subset_nil ss0
                      intro u a ha
                      refine JC_norm ⟨146, [], [_, _, _, _, _, _, _, _, _, _, _, _, _, _, _, _, _, _, _, _, _, _, _, _, _, _, _, _, _, _, _, _, _, _, _, _, _, _, _, _, _, _, _, _, _, _, _, _, _, _, _, _, _, _, _, _, _, _, _, _, _, _, _, _, _, _, _, _, _, _, _, _, _, _, _, _, _, _, _, _, _, _, _, _, _, _, _, _, _, _, _, _, _, _, _, _, _, _, _, _, _, _, _, _, _, _, _, _, _, _, _, _, _, _, _, _, _, _, _, _, _, _, _, _, _, _, _, _, _, _, _, _, _, _, _, _, _, _, _, _, _, _, _, _, _, _]⟩ [] [_, _, _, _, _, _, _, _, _, _, _, _, _, _, _, _] rfl rfl rfl ?_
                      have hal : a < V.length := by rw [ha]; split <;> omega
                      refine JC_seq ?_
                      refine JC_fesGet (f := true) (l := l94) (l94.getD a dF) (by repeat (first | with_reducible exact mm0 | refine mmS ?_)) (getD_mem (by omega)) ?_
                      refine JC_fesGet (f := true) (l := l100) (l100.getD i dF) (by repeat (first | with_reducible exact mm0 | refine mmS ?_)) (getD_mem (by omega)) ?_
                      refine JC_drawT mixed 8 [spV 136 [] _, spV 137 [] _, spV 138 [0, 1] _, spV 139 [2] _, spV 140 [] _, spV 141 [] _, spV 142 [4, 5] _, spV 143 [6] _] ⟨OblS_V (fun vals ex ψ => (by
                          refine JL_normQ ⟨146, [(136, _), (137, _), (138, _), (139, _), (140, _), (141, _), (142, _), (143, _)], _⟩ (_ :: _ :: _ :: _ :: _ :: _ :: _ :: _ :: _ :: _ :: _ :: _ :: _ :: _ :: _ :: _ :: _ :: _ :: _ :: _ :: ψ) rfl rfl ?_
                          refine JL_move rfl ?_
                          exact JL_nil (JE_stepV rfl ss0))), OblS_V (fun vals ex ψ => (by
                          refine JL_normQ ⟨146, [(136, _), (137, _), (138, _), (139, _), (140, _), (141, _), (142, _), (143, _)], _⟩ (_ :: _ :: _ :: _ :: _ :: _ :: _ :: _ :: _ :: _ :: _ :: _ :: _ :: _ :: _ :: _ :: _ :: _ :: _ :: _ :: ψ) rfl rfl ?_
                          refine JL_move rfl ?_
                          exact JL_nil (JE_stepV rfl ss0))), OblS_V (fun vals ex ψ => (by
                          refine JL_normQ ⟨146, [(136, _), (137, _), (138, _), (139, _), (140, _), (141, _), (142, _), (143, _)], _⟩ (_ :: _ :: _ :: _ :: _ :: _ :: _ :: _ :: _ :: _ :: _ :: _ :: _ :: _ :: _ :: _ :: _ :: _ :: _ :: _ :: ψ) rfl rfl ?_
                          refine JL_indexAddr a sl28 rfl rfl rfl (by omega) (by first | exact Reads.view (by repeat (first | with_reducible exact mm0 | refine mmS ?_))) (by rw [fcells_length]; omega) ?_
                          exact JL_nil (JE_stepV rfl ss0))), OblS_V (fun vals ex ψ => (by
                          refine JL_normQ ⟨146, [(136, _), (137, _), (138, _), (139, _), (140, _), (141, _), (142, _), (143, _)], _⟩ (_ :: _ :: _ :: _ :: _ :: _ :: _ :: _ :: _ :: _ :: _ :: _ :: _ :: _ :: _ :: _ :: _ :: _ :: _ :: _ :: ψ) rfl rfl ?_
                          refine JL_loadEA (vs := [_, _, _]) ty36 (Nat.zero_lt_succ _) rfl (by first | exact Reads.view (by repeat (first | with_reducible exact mm0 | refine mmS ?_))) (fcells_getA (by omega)) ?_
                          exact JL_nil (JE_stepV rfl ss0))), OblS_V (fun vals ex ψ => (by
                          refine JL_normQ ⟨146, [(136, _), (137, _), (138, _), (139, _), (140, _), (141, _), (142, _), (143, _)], _⟩ (_ :: _ :: _ :: _ :: _ :: _ :: _ :: _ :: _ :: _ :: _ :: _ :: _ :: _ :: _ :: _ :: _ :: _ :: _ :: _ :: ψ) rfl rfl ?_
                          refine JL_move rfl ?_
                          exact JL_nil (JE_stepV rfl ss0))), OblS_V (fun vals ex ψ => (by
                          refine JL_normQ ⟨146, [(136, _), (137, _), (138, _), (139, _), (140, _), (141, _), (142, _), (143, _)], _⟩ (_ :: _ :: _ :: _ :: _ :: _ :: _ :: _ :: _ :: _ :: _ :: _ :: _ :: _ :: _ :: _ :: _ :: _ :: _ :: _ :: ψ) rfl rfl ?_
                          refine JL_move rfl ?_
                          exact JL_nil (JE_stepV rfl ss0))), OblS_V (fun vals ex ψ => (by
                          refine JL_normQ ⟨146, [(136, _), (137, _), (138, _), (139, _), (140, _), (141, _), (142, _), (143, _)], _⟩ (_ :: _ :: _ :: _ :: _ :: _ :: _ :: _ :: _ :: _ :: _ :: _ :: _ :: _ :: _ :: _ :: _ :: _ :: _ :: _ :: ψ) rfl rfl ?_
                          refine JL_indexAddr i sl28 rfl rfl rfl (by omega) (by first | exact Reads.view (by repeat (first | with_reducible exact mm0 | refine mmS ?_))) (by rw [fcells_length]; omega) ?_
                          exact JL_nil (JE_stepV rfl ss0))), OblS_V (fun vals ex ψ => (by
                          refine JL_normQ ⟨146, [(136, _), (137, _), (138, _), (139, _), (140, _), (141, _), (142, _), (143, _)], _⟩ (_ :: _ :: _ :: _ :: _ :: _ :: _ :: _ :: _ :: _ :: _ :: _ :: _ :: _ :: _ :: _ :: _ :: _ :: _ :: _ :: ψ) rfl rfl ?_
                          refine JL_loadEA (vs := [_, _, _]) ty36 (Nat.zero_lt_succ _) rfl (by first | exact Reads.view (by repeat (first | with_reducible exact mm0 | refine mmS ?_))) (fcells_getA (by omega)) ?_
                          exact JL_nil (JE_stepV rfl ss0))), trivial⟩ (by kernel_rfl) (fun vals bs => ?_)
                      refine JL_normL [_, _] ⟨146, [(136, _), (137, _), (138, _), (139, _), (140, _), (141, _), (142, _), (143, _)], _⟩ [] [_, _, _, _, _, _, _, _, _, _, _, _, _, _, _, _, _, _, _, _] rfl rfl rfl rfl ?_
                      refine JL_callF' (Asks.cons (holds_of_mem (by repeat (first | with_reducible exact mm0 | refine mmS ?_))) (Asks.cons (holds_of_mem (by repeat (first | with_reducible exact mm0 | refine mmS ?_))) (Asks.cons (holds_of_mem (by repeat (first | with_reducible exact mm0 | refine mmS ?_))) (Asks.cons (holds_of_mem (by repeat (first | with_reducible exact mm0 | refine mmS ?_))) Asks.nil)))) (fcmpq_con (FIn.some ((fes_fqs hl94 a).mono (by decide))) (FIn.some ((fes_fqs hl100 i).mono (by decide)))) rfl ca9 ⟨rfl, rfl, rfl⟩ ?_
                      rintro _ _ ⟨rfl, rfl⟩
                      refine JL_neq rfl rfl ?_
                      refine JL_split (fun h145 => ?_) (fun h145 => ?_)
                      · exact absurd (cmpQ_zero.2 (by rw [fes_fq hl94, fes_fq hl100, part_fit hz hkV h2 h23 (by omega), ha])) h145
                      · refine JL_done_up 146 [] [_, _, _, _, _, _, _, _, _, _, _, _, _, _, _, _, _, _, _, _] rfl rfl (by simp only [nrmF]; rfl) rfl rfl ?_
                        refine JC_false rfl ?_
                        refine JC_skip ?_
                        refine JE_block_normal ?_
                        refine JE_then ?_
                        refine JC_region ?_
                        refine JL_move rfl ?_
                        refine JL_add_to rfl rfl (IntWalk.i64_in _ (by omega)) ?_
                        refine JL_assign rfl ?_
                        refine JL_nil_up 146 [] [_, _, _, _, _, _, _, _, _, _, _, _, _, _, _, _, _, _, _, _] rfl rfl (by simp only [nrmF]; rfl) rfl rfl ?_
                        refine JE_nextS (i + 1) (by kernel_rfl) ?_ ?_ (by kernel_rfl) ?_
                        · exact (by omega : i + 1 ≤ V.length + 1)
                        · first | omega | (dsimp only; omega)
                        · exact subset_app subset_nil (ssS (ssS (ssS (ssS ss0))))
                    · refine JL_done_up 146 [] [_, _, _, _, _, _, _, _, _, _, _, _, _, _, _, _] rfl rfl (by simp only [nrmF]; rfl) rfl rfl ?_
                      refine JC_false rfl ?_
                      refine JC_exit ?_
                      refine JE_then_exit ?_
                      refine JE_nextS_exit ?_
                      refine JE_block_exit ?_
                      refine JE_then ?_
                      refine JC_seq ?_
                      refine JC_region ?_
                      refine JL_assign rfl ?_
                      refine JL_done_up 146 [] [_, _, _, _, _, _, _, _, _, _, _, _, _, _, _, _] rfl rfl (by simp only [nrmF]; rfl) rfl rfl ?_
                      refine JC_ret ?_
                      refine JE_ret (vs := [_]) [] Tryd.results3 ⟨rfl, rfl⟩ ?_ ?_
                      · exact ⟨rfl, rfl⟩
                      · exact all_nil
  · refine JL_guard_yes rfl rfl ?_
    refine JL_not rfl ?_
    rw [Bool.not_false]
    refine JL_pick_f rfl rfl ?_
    refine JL_move rfl ?_
    refine JL_guard_no rfl rfl ?_
    refine JL_guard_no rfl rfl ?_
    refine JL_guard_no rfl rfl ?_
    refine JL_guard_no rfl rfl ?_
    refine JL_pick_t rfl rfl ?_
    refine JL_move rfl ?_
    refine JL_guard_no rfl rfl ?_
    refine JL_guard_no rfl rfl ?_
    refine JL_guard_no rfl rfl ?_
    refine JL_pick_t rfl rfl ?_
    refine JL_move rfl ?_
    refine JL_guard_no rfl rfl ?_
    refine JL_guard_no rfl rfl ?_
    refine JL_guard_no rfl rfl ?_
    refine JL_pick_t rfl rfl ?_
    refine JL_done_up 146 [] [_, _] rfl rfl (by simp only [nrmF]; rfl) rfl rfl ?_
    refine JC_true rfl ?_
    refine JC_seq ?_
    refine JC_region ?_
    refine JL_callF' Asks.nil (iawake_con) rfl ca4 rfl ?_
    rintro _ _ ⟨rfl, rfl⟩
    refine JL_assign rfl ?_
    refine JL_done_up 146 [] [_, _] rfl rfl (by simp only [nrmF]; rfl) rfl rfl ?_
    refine JC_ret ?_
    refine JE_then_ret ?_
    refine JE_ret (vs := [_]) [] Tryd.results3 ⟨rfl, rfl⟩ ?_ ?_
    · exact ⟨rfl, rfl⟩
    · exact all_nil

end Go.Fw.K
