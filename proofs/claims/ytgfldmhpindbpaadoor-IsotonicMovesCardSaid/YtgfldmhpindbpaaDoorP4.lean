/- Walks through functions of the given program: each meets its contract. (Printed by a program of this repo.) -/
import Derived.Test.YtgfldmhpindbpaaDoorC4
import Derived.Test.YtgfldmhpindbpaaDoorC5
import Derived.Test.YtgfldmhpindbpaaDoorM1
import Derived.Test.YtgfldmhpindbpaaDoorProg
namespace Go.Fw.P4
open Go Go.RowKit Go.Proofs Go.Nat9 Go.Fw
attribute [local irreducible] JC JL JE
theorem ca10 : callable Tryd.prog 10 = true := by kernel_rfl
theorem ca11 : callable Tryd.prog 11 = true := by kernel_rfl
theorem ca12 : callable Tryd.prog 12 = true := by kernel_rfl
theorem ca13 : callable Tryd.prog 13 = true := by kernel_rfl
theorem ca14 : callable Tryd.prog 14 = true := by kernel_rfl
theorem ca19 : callable Tryd.prog 19 = true := by kernel_rfl
theorem ca20 : callable Tryd.prog 20 = true := by kernel_rfl
theorem ca21 : callable Tryd.prog 21 = true := by kernel_rfl
theorem ca22 : callable Tryd.prog 22 = true := by kernel_rfl
theorem ca9 : callable Tryd.prog 9 = true := by kernel_rfl
theorem fo48_0 : fOf Tryd.prog 48 0 = some 0 := by kernel_rfl
theorem fo48_1 : fOf Tryd.prog 48 1 = some 1 := by kernel_rfl
theorem mixed : Tryd.prog.follows .mixedOrders = true := by kernel_rfl
theorem sl22 : slOf Tryd.prog 22 = some (3, 1, 8, [.int .i64 0]) := by kernel_rfl
theorem sl28 : slOf Tryd.prog 28 = some (36, 3, 56, [.bool false, .slice none 0 0, .slice none 0 0]) := by kernel_rfl
theorem ty3 : tyOf Tryd.prog 3 = some (false, 1) := by kernel_rfl
theorem ty36 : tyOf Tryd.prog 36 = some (true, 3) := by kernel_rfl
end Go.Fw.P4
namespace Go.Fw.K
open Go Go.RowKit Go.Proofs Go.Nat9 Go.Fw Go.Fw.P4
attribute [local irreducible] JC JL JE

set_option maxHeartbeats 1000000 in
set_option maxRecDepth 20000 in
theorem isotonicMoves_con {adv adw : Option Addr} {cv cw : Nat} {V W : List Int} {i j : Int} (hi1 : -9223372036854775808 ≤ i) (hi2 : i ≤ 9223372036854775807) (hj1 : -9223372036854775808 ≤ j) (hj2 : j ≤ 9223372036854775807) :
    ConF Tryd.prog 7 [.slice adv V.length cv, .slice adw W.length cw, .agg #[.int .i64 i, .int .i64 j]] [vCells adv (i64s V), vCells adw (i64s W)]
      (fun v φo => v = .bool true ∧ φo = []) := by
  have _ := hi1
  have _ := hi2
  have _ := hj1
  have _ := hj2
  refine ConF_of Tryd.func7 rfl 123 _ rfl rfl ?_
  intro w0
  refine JC_norm ⟨123, [], [_, _, _, _, _, _, _, _, _, _, _, _, _, _, _, _, _, _, _, _, _, _, _, _, _, _, _, _, _, _, _, _, _, _, _, _, _, _, _, _, _, _, _, _, _, _, _, _, _, _, _, _, _, _, _, _, _, _, _, _, _, _, _, _, _, _, _, _, _, _, _, _, _, _, _, _, _, _, _, _, _, _, _, _, _, _, _, _, _, _, _, _, _, _, _, _, _, _, _, _, _, _, _, _, _, _, _, _, _, _, _, _, _, _, _, _, _, _, _, _, _, _, _]⟩ [] [_, _] rfl rfl rfl ?_
  refine JC_seq ?_
  refine JC_region ?_
  refine JL_box rfl rfl (fun b5 => ?_)
  refine JL_assign rfl ?_
  refine JL_done_up 123 [box _ _ [_, _]] [_, _] rfl rfl (by simp only [nrmF]; rfl) rfl rfl ?_
  refine JC_seq ?_
  refine JC_seq ?_
  refine JC_region ?_
  refine JL_callF' Asks.nil (iawake_con) rfl ca9 rfl ?_
  rintro _ _ ⟨rfl, rfl⟩
  refine JL_not rfl ?_
  rw [Bool.not_true]
  refine JL_move rfl ?_
  refine JL_guard_yes rfl rfl ?_
  refine JL_move rfl ?_
  refine JL_guard_yes rfl rfl ?_
  refine JL_move rfl ?_
  refine JL_guard_yes rfl rfl ?_
  refine JL_callF' (Asks.cons (holds_of_mem (by repeat (first | with_reducible exact mm0 | refine mmS ?_))) (Asks.cons (holds_of_mem (by repeat (first | with_reducible exact mm0 | refine mmS ?_))) Asks.nil)) (few0_con) rfl ca10 ⟨rfl, rfl, rfl, rfl⟩ ?_
  rintro _ _ ⟨rfl, rfl⟩
  refine JL_split (fun h22 => ?_) (fun h22 => ?_)
  · refine JL_guard_yes rfl rfl ?_
    refine JL_not rfl ?_
    rw [Bool.not_true]
    refine JL_pick_f rfl rfl ?_
    refine JL_move rfl ?_
    refine JL_guard_yes rfl rfl ?_
    refine JL_move rfl ?_
    refine JL_guard_yes rfl rfl ?_
    refine JL_move rfl ?_
    refine JL_guard_yes rfl rfl ?_
    refine JL_callF' (Asks.cons (holds_of_mem (by repeat (first | with_reducible exact mm0 | refine mmS ?_))) (Asks.cons (holds_of_mem (by repeat (first | with_reducible exact mm0 | refine mmS ?_))) Asks.nil)) (rdata_con) rfl ca11 ⟨rfl, rfl, rfl⟩ ?_
    rintro _ _ ⟨rfl, rfl⟩
    refine JL_guard_yes rfl rfl ?_
    refine JL_neq rfl rfl ?_
    refine JL_split (fun h29 => ?_) (fun h29 => ?_)
    · refine JL_pick_f rfl rfl ?_
      refine JL_done_up 123 [box _ _ [_, _]] [_, _] rfl rfl (by simp only [nrmF]; rfl) rfl rfl ?_
      refine JC_true rfl ?_
      refine JC_seq ?_
      refine JC_region ?_
      refine JL_callF' Asks.nil (iawake_con) rfl ca9 rfl ?_
      rintro _ _ ⟨rfl, rfl⟩
      refine JL_assign rfl ?_
      refine JL_done_up 123 [box _ _ [_, _]] [_, _] rfl rfl (by simp only [nrmF]; rfl) rfl rfl ?_
      refine JC_ret ?_
      refine JE_then_ret ?_
      refine JE_ret (vs := [_]) [] Tryd.results7 ⟨rfl, rfl⟩ ?_ ?_
      · exact ⟨rfl, rfl⟩
      · exact all_nil
    · refine JL_pick_f rfl rfl ?_
      refine JL_done_up 123 [box _ _ [_, _]] [_, _] rfl rfl (by simp only [nrmF]; rfl) rfl rfl ?_
      refine JC_false rfl ?_
      refine JC_skip ?_
      refine JE_then ?_
      refine JC_seq ?_
      have hz : chk V W = 0 := Classical.byContradiction h29
      obtain ⟨hn, hvw, hok⟩ := chk_zero hz
      refine JC_drawT mixed 5 [spV 32 [] _, spV 33 [0] _, spC 34 [1] _, spV 35 [] _, spV 36 [3] _] ⟨OblS_V (fun vals ex ψ => (by
          refine JL_normQ ⟨123, [(32, _), (33, _), (34, _), (35, _), (36, _)], _⟩ (_ :: _ :: ψ) rfl rfl ?_
          refine JL_fieldAddr fo48_0 rfl ?_
          exact JL_nil (JE_stepV rfl ss0))), OblS_V (fun vals ex ψ => (by
          refine JL_normQ ⟨123, [(32, _), (33, _), (34, _), (35, _), (36, _)], _⟩ (_ :: _ :: ψ) rfl rfl ?_
          refine JL_load 0 ty3 rfl rfl rfl ?_
          exact JL_nil (JE_stepV rfl ss0))), OblS_C (fun vals ex ψ => (by
          refine JL_normQ ⟨123, [(32, _), (33, _), (34, _), (35, _), (36, _)], _⟩ (_ :: _ :: ψ) rfl rfl ?_
          refine JL_callF' Asks.nil (bmod_con (b := 10) (by decide) (by decide)) rfl ca12 ⟨rfl, rfl, rfl⟩ ?_
          exact fun v φo hP => JL_nil (JE_stepC φo rfl hP (fun p hp => mapB_l hp) (fun p hp => mapB_r (ss0 p hp))))), OblS_V (fun vals ex ψ => (by
          refine JL_normQ ⟨123, [(32, _), (33, _), (34, _), (35, _), (36, _)], _⟩ (_ :: _ :: ψ) rfl rfl ?_
          refine JL_fieldAddr fo48_1 rfl ?_
          exact JL_nil (JE_stepV rfl ss0))), OblS_V (fun vals ex ψ => (by
          refine JL_normQ ⟨123, [(32, _), (33, _), (34, _), (35, _), (36, _)], _⟩ (_ :: _ :: ψ) rfl rfl ?_
          refine JL_load 0 ty3 rfl rfl rfl ?_
          exact JL_nil (JE_stepV rfl ss0))), trivial⟩ (by kernel_rfl) (fun vals bs => ?_)
      refine JL_normL [_, _, _] ⟨123, [(32, _), (33, _), (34, _), (35, _), (36, _)], _⟩ [box _ _ [_, _]] [_, _, _] rfl rfl rfl rfl ?_
      generalize vals (0 + 1 + 1) = x34
      refine JL_usePost mm0 (fun φo hP => ?_)
      obtain ⟨rfl, rfl⟩ := hP
      refine JL_norm _ [box _ _ [_, _]] [_, _, _] rfl rfl rfl ?_
      refine JL_callF' Asks.nil (bclip_con) rfl ca22 ⟨rfl, rfl, rfl, rfl⟩ ?_
      rintro _ _ ⟨rfl, rfl⟩
      refine JL_assign rfl ?_
      refine JL_assign rfl ?_
      refine JL_done_up 123 [box _ _ [_, _]] [_, _, _] rfl rfl (by simp only [nrmF]; rfl) rfl rfl ?_
      refine JC_seq ?_
      have hc0 := Int.emod_nonneg i (show (10 : Int) ≠ 0 by decide)
      have hc1 := Int.emod_lt_of_pos i (show (0 : Int) < 10 by decide)
      obtain ⟨hd0, hd1⟩ := clp_in j (show (-1000 : Int) ≤ 1000 by decide)
      generalize i % 10 = c at hc0 hc1 ⊢
      generalize clp (-1000) 1000 j = d at hd0 hd1 ⊢
      refine JC_region ?_
      refine JL_move rfl ?_
      refine JL_len sl22 rfl ?_
      refine JL_make1 (mvXL V).length (mvXL V).length sl22 rfl rfl (by rw [mvXL_len]) (by rw [mvXL_len]) (Nat.le_refl _) (by rw [mvXL_len]; omega) (by rw [mvXL_len]; omega) (fun g40 => ?_)
      rw [i64s_replicate]
      rw [show i64s (List.replicate (mvXL V).length 0) = i64s (fillL (mvX V) zf V.length 0) from by rw [mvXL_len, fillZ]]
      refine JL_assign rfl ?_
      refine JL_done_up 123 [box _ _ [_, _], osl _ _ _ _ _ _] [_, _, _] rfl rfl (by simp only [nrmF]; rfl) rfl rfl ?_
      refine JC_seq ?_
      refine JC_region ?_
      refine JL_move rfl ?_
      refine JL_len sl22 rfl ?_
      refine JL_make1 (mvYL V c d).length (mvYL V c d).length sl22 rfl rfl (by rw [mvYL_len]) (by rw [mvYL_len]) (Nat.le_refl _) (by rw [mvYL_len]; omega) (by rw [mvYL_len]; omega) (fun g43 => ?_)
      rw [i64s_replicate]
      rw [show i64s (List.replicate (mvYL V c d).length 0) = i64s (fillL (mvY V c d) zf V.length 0) from by rw [mvYL_len, fillZ]]
      refine JL_assign rfl ?_
      refine JL_done_up 123 [box _ _ [_, _], osl _ _ _ _ _ _, osl _ _ _ _ _ _] [_, _, _] rfl rfl (by simp only [nrmF]; rfl) rfl rfl ?_
      refine JC_seq ?_
      refine JC_seq ?_
      refine JC_region ?_
      refine JL_assign rfl ?_
      refine JL_done_up 123 [box _ _ [_, _], osl _ _ _ _ _ _, osl _ _ _ _ _ _] [_, _, _] rfl rfl (by simp only [nrmF]; rfl) rfl rfl ?_
      refine JC_block ?_
      refine JC_loopS ((Nat)) (fun (i : Nat) => i ≤ V.length) (fun (i : Nat) => V.length - i) (fun u (i : Nat) => [none, none, none, none, none, none, none, none, none, none, none, some (.int .i64 (i : Nat)), none, none, none, none, none, none, none, none, none, none, none, none, none, none, none, none, none, none, none, none, none, none, none, none, none, none, none, none, none, none, none, none, some (u 44), some (u 45), some (u 46), some (u 47), some (u 48), some (u 49), some (u 50), some (u 51), some (u 52), some (u 53), some (u 54), some (u 55), some (u 56), some (u 57), some (u 58), some (u 59), some (u 60), some (u 61), some (u 62), some (u 63), some (u 64), some (u 65), some (u 66), some (u 67), some (u 68), none, none, none, none, none, none, none, none, none, none, none, none, none, none, none, none, none, none, none, none, none, none, none, none, none, none, none, none, none, none, none, none, none, none, none, none, none, none, none, none, none, none, none, none, none, none, none, none, none, none, none, none, none, none]) (fun (i : Nat) => [none, some (osl (some ⟨g40, 0, none⟩) (mvXL V).length (mvXL V).length 3 1 (i64s (fillL (mvX V) zf V.length i))), some (osl (some ⟨g43, 0, none⟩) (mvYL V c d).length (mvYL V c d).length 3 1 (i64s (fillL (mvY V c d) zf V.length i)))]) (fun (i : Nat) => []) (0) (by kernel_rfl) ?_ (by kernel_rfl) ?_ ?_
      · exact Nat.zero_le _
      · exact subset_nil
      intro u i hi
      refine JC_norm ⟨123, [], [_, _, _, _, _, _, _, _, _, _, _, _, _, _, _, _, _, _, _, _, _, _, _, _, _, _, _, _, _, _, _, _, _, _, _, _, _, _, _, _, _, _, _, _, _, _, _, _, _, _, _, _, _, _, _, _, _, _, _, _, _, _, _, _, _, _, _, _, _, _, _, _, _, _, _, _, _, _, _, _, _, _, _, _, _, _, _, _, _, _, _, _, _, _, _, _, _, _, _, _, _, _, _, _, _, _, _, _, _, _, _, _, _, _, _, _, _, _, _, _, _, _, _]⟩ [box _ _ [_, _], osl _ _ _ _ _ _, osl _ _ _ _ _ _] [_, _, _] rfl rfl rfl ?_
      refine JC_seq ?_
      refine JC_seq ?_
      refine JC_region ?_
      refine JL_move rfl ?_
      refine JL_move rfl ?_
      refine JL_len sl22 rfl ?_
      refine JL_lss rfl rfl ?_
      refine JL_split (fun h47 => ?_) (fun h47 => ?_)
      · refine JL_done_up 123 [box _ _ [_, _], osl _ _ _ _ _ _, osl _ _ _ _ _ _] [_, _, _] rfl rfl (by simp only [nrmF]; rfl) rfl rfl ?_
        refine JC_true rfl ?_
        refine JC_skip ?_
        refine JE_then ?_
        refine JC_seq ?_
        refine JC_block ?_
        refine JC_seq ?_
        refine JC_region ?_
        refine JL_move rfl ?_
        refine JL_move rfl ?_
        refine JL_move rfl ?_
        refine JL_move rfl ?_
        refine JL_idx i sl22 rfl rfl rfl (by omega) (by first | exact Reads.view (by repeat (first | with_reducible exact mm0 | refine mmS ?_)) | (exact Reads.own 1 rfl) | (exact Reads.own 2 rfl)) (by first | (rw [u32s_length]; omega) | (rw [i64s_length]; omega)) ?_
        refine JL_loadE ty3 rfl (by first | exact Reads.view (by repeat (first | with_reducible exact mm0 | refine mmS ?_)) | (exact Reads.own 1 rfl) | (exact Reads.own 2 rfl)) (i64s_get (by omega)) ?_
        refine JL_callF' Asks.nil (bclip_con) rfl ca22 ⟨rfl, rfl, rfl, rfl⟩ ?_
        rintro _ _ ⟨rfl, rfl⟩
        rw [show clp (-90000) 90000 (V.getD i 0) = mvX V i from rfl]
        refine JL_idx i sl22 rfl rfl rfl (by rw [mvXL_len]; omega) (Reads.own 1 rfl) (by rw [i64s_length, fillL_len]; omega) ?_
        refine JL_storeI 1 ty3 rfl rfl rfl (by rw [fillL_len]; omega) ?_
        refine JL_done_up 123 [box _ _ [_, _], osl _ _ _ _ _ _, osl _ _ _ _ _ _] [_, _, _] rfl rfl (by simp only [nrmF]; rfl) rfl rfl ?_
        rw [fillL_set (mvX V) zf V.length i]
        have hmi := mvY_in V (c := c) hc0 (by omega) i
        refine JC_region ?_
        refine JL_move rfl ?_
        refine JL_move rfl ?_
        refine JL_move rfl ?_
        refine JL_move rfl ?_
        refine JL_move rfl ?_
        refine JL_idx i sl22 rfl rfl rfl (by rw [mvXL_len]; omega) (Reads.own 1 rfl) (by rw [i64s_length, fillL_len]; omega) ?_
        refine JL_loadE ty3 rfl (Reads.own 1 rfl) (i64s_get (by rw [fillL_len]; omega)) ?_
        rw [fillL_lo (f := mvX V) (g := zf) (n := V.length) (i := i + 1) (k := i) (by omega) (by omega)]
        refine JL_mul_to rfl rfl (IntWalk.i64_in _ (by omega)) ?_
        refine JL_move rfl ?_
        refine JL_add_to rfl rfl (IntWalk.i64_in _ (by omega)) ?_
        rw [show (c * mvX V i + d : Int) = mvY V c d i from rfl]
        refine JL_idx i sl22 rfl rfl rfl (by rw [mvYL_len]; omega) (Reads.own 2 rfl) (by rw [i64s_length, fillL_len]; omega) ?_
        refine JL_storeI 2 ty3 rfl rfl rfl (by rw [fillL_len]; omega) ?_
        refine JL_nil_up 123 [box _ _ [_, _], osl _ _ _ _ _ _, osl _ _ _ _ _ _] [_, _, _] rfl rfl (by simp only [nrmF]; rfl) rfl rfl ?_
        refine JE_block_normal ?_
        refine JE_then ?_
        refine JC_region ?_
        refine JL_move rfl ?_
        refine JL_add_to rfl rfl (IntWalk.i64_in _ (by omega)) ?_
        refine JL_assign rfl ?_
        refine JL_nil_up 123 [box _ _ [_, _], osl _ _ _ _ _ _, osl _ _ _ _ _ _] [_, _, _] rfl rfl (by simp only [nrmF]; rfl) rfl rfl ?_
        rw [fillL_set (mvY V c d) zf V.length i]
        refine JE_nextS (i + 1) (by kernel_rfl) ?_ ?_ (by kernel_rfl) ?_
        · exact (by omega : i + 1 ≤ V.length)
        · first | omega | (dsimp only; omega)
        · exact subset_app subset_nil ss0
      · refine JL_done_up 123 [box _ _ [_, _], osl _ _ _ _ _ _, osl _ _ _ _ _ _] [_, _, _] rfl rfl (by simp only [nrmF]; rfl) rfl rfl ?_
        refine JC_false rfl ?_
        refine JC_exit ?_
        refine JE_then_exit ?_
        refine JE_nextS_exit ?_
        refine JE_block_exit ?_
        refine JE_then ?_
        refine JC_seq ?_
        have hie : i = V.length := by omega
        subst hie
        rw [show fillL (mvX V) zf V.length V.length = mvXL V from fillL_full _ _ _, show fillL (mvY V c d) zf V.length V.length = mvYL V c d from fillL_full _ _ _]
        refine JC_region ?_
        refine JL_move rfl ?_
        refine JL_move rfl ?_
        refine JL_give 1 rfl ?_
        refine JL_norm _ [box _ _ [_, _], osl _ _ _ _ _ _] [_, _, _, _] rfl rfl rfl ?_
        refine JL_callF' (Asks.cons (by first | exact holds_of_mem (by repeat (first | with_reducible exact mm0 | refine mmS ?_)) | (exact holds_of_own 1 rfl)) (Asks.cons (by first | exact holds_of_mem (by repeat (first | with_reducible exact mm0 | refine mmS ?_)) | (exact holds_of_own 1 rfl)) Asks.nil)) (ifit_con (V := mvXL V)) rfl ca13 ⟨rfl, rfl, rfl⟩ ?_
        rintro _ _ ⟨ad72, c72, l72, rfl, hl72, rfl⟩
        rw [mvX_chk hz]
        have hn72 := fes_flen (mvX_chk hz) hl72
        rw [mvXL_len] at hn72
        refine JL_move rfl ?_
        refine JL_extract rfl rfl ?_
        refine JL_extract rfl rfl ?_
        refine JL_assign rfl ?_
        refine JL_assign rfl ?_
        refine JL_done_up 123 [box _ _ [_, _], osl _ _ _ _ _ _] [_, _, _, _, _, _] rfl rfl (by simp only [nrmF]; rfl) rfl rfl ?_
        refine JC_seq ?_
        refine JC_region ?_
        refine JL_move rfl ?_
        refine JL_move rfl ?_
        refine JL_give 1 rfl ?_
        refine JL_norm _ [box _ _ [_, _]] [_, _, _, _, _, _, _] rfl rfl rfl ?_
        refine JL_callF' (Asks.cons (holds_of_mem (by repeat (first | with_reducible exact mm0 | refine mmS ?_))) (Asks.cons (holds_of_mem (by repeat (first | with_reducible exact mm0 | refine mmS ?_))) Asks.nil)) (ifit_con (V := mvYL V c d)) rfl ca13 ⟨rfl, rfl, rfl⟩ ?_
        rintro _ _ ⟨ad78, c78, l78, rfl, hl78, rfl⟩
        rw [mvY_chk hz hc0 (Int.lt_add_one_iff.1 hc1) hd0 hd1]
        have hn78 := fes_flen (mvY_chk hz hc0 (Int.lt_add_one_iff.1 hc1) hd0 hd1) hl78
        rw [mvYL_len] at hn78
        refine JL_move rfl ?_
        refine JL_extract rfl rfl ?_
        refine JL_extract rfl rfl ?_
        refine JL_assign rfl ?_
        refine JL_assign rfl ?_
        refine JL_done_up 123 [box _ _ [_, _]] [_, _, _, _, _, _, _, _, _] rfl rfl (by simp only [nrmF]; rfl) rfl rfl ?_
        refine JC_seq ?_
        refine JC_seq ?_
        refine JC_region ?_
        refine JL_move rfl ?_
        refine JL_neq rfl rfl ?_
        refine JL_split (fun h82 => ?_) (fun h82 => ?_)
        · exact absurd rfl h82
        · refine JL_move rfl ?_
          refine JL_guard_yes rfl rfl ?_
          refine JL_move rfl ?_
          refine JL_guard_yes rfl rfl ?_
          refine JL_neq rfl rfl ?_
          refine JL_split (fun h85 => ?_) (fun h85 => ?_)
          · exact absurd rfl h85
          · refine JL_pick_f rfl rfl ?_
            refine JL_move rfl ?_
            refine JL_guard_yes rfl rfl ?_
            refine JL_move rfl ?_
            refine JL_guard_yes rfl rfl ?_
            refine JL_len sl28 rfl ?_
            refine JL_guard_yes rfl rfl ?_
            refine JL_move rfl ?_
            refine JL_guard_yes rfl rfl ?_
            refine JL_len sl22 rfl ?_
            refine JL_guard_yes rfl rfl ?_
            refine JL_neq rfl rfl ?_
            refine JL_split (fun h92 => ?_) (fun h92 => ?_)
            · exact absurd hn72 (by omega)
            · refine JL_pick_f rfl rfl ?_
              refine JL_move rfl ?_
              refine JL_guard_yes rfl rfl ?_
              refine JL_move rfl ?_
              refine JL_guard_yes rfl rfl ?_
              refine JL_len sl28 rfl ?_
              refine JL_guard_yes rfl rfl ?_
              refine JL_move rfl ?_
              refine JL_guard_yes rfl rfl ?_
              refine JL_len sl22 rfl ?_
              refine JL_guard_yes rfl rfl ?_
              refine JL_neq rfl rfl ?_
              refine JL_split (fun h99 => ?_) (fun h99 => ?_)
              · exact absurd hn78 (by omega)
              · refine JL_pick_f rfl rfl ?_
                refine JL_done_up 123 [box _ _ [_, _]] [_, _, _, _, _, _, _, _, _] rfl rfl (by simp only [nrmF]; rfl) rfl rfl ?_
                refine JC_false rfl ?_
                refine JC_skip ?_
                refine JE_then ?_
                refine JC_seq ?_
                refine JC_seq ?_
                refine JC_region ?_
                refine JL_assign rfl ?_
                refine JL_done_up 123 [box _ _ [_, _]] [_, _, _, _, _, _, _, _, _] rfl rfl (by simp only [nrmF]; rfl) rfl rfl ?_
                refine JC_block ?_
                refine JC_loopS ((Nat)) (fun (j : Nat) => j ≤ V.length) (fun (j : Nat) => V.length - j) (fun u (j : Nat) => [none, none, none, none, none, none, some (u 6), none, none, none, none, none, none, none, none, none, some (.int .i64 (j : Nat)), none, none, none, none, none, none, none, none, none, none, none, none, none, none, none, none, none, none, none, none, none, none, none, none, none, none, none, none, none, none, none, none, none, none, none, none, none, none, none, none, none, none, none, none, none, none, none, none, none, none, none, none, none, none, none, none, none, none, none, none, none, none, none, none, none, none, none, none, none, none, none, none, none, none, none, none, none, none, none, none, none, none, none, none, some (u 101), some (u 102), some (u 103), some (u 104), some (u 105), some (u 106), some (u 107), some (u 108), some (u 109), some (u 110), some (u 111), some (u 112), some (u 113), some (u 114), some (u 115), some (u 116), some (u 117), some (u 118), some (u 119), some (u 120), some (u 121), some (u 122)]) (fun (j : Nat) => [none]) (fun (j : Nat) => []) (0) (by kernel_rfl) ?_ (by kernel_rfl) ?_ ?_
                · exact Nat.zero_le _
                · exact subset_nil
                intro u j hj
                refine JC_norm ⟨123, [], [_, _, _, _, _, _, _, _, _, _, _, _, _, _, _, _, _, _, _, _, _, _, _, _, _, _, _, _, _, _, _, _, _, _, _, _, _, _, _, _, _, _, _, _, _, _, _, _, _, _, _, _, _, _, _, _, _, _, _, _, _, _, _, _, _, _, _, _, _, _, _, _, _, _, _, _, _, _, _, _, _, _, _, _, _, _, _, _, _, _, _, _, _, _, _, _, _, _, _, _, _, _, _, _, _, _, _, _, _, _, _, _, _, _, _, _, _, _, _, _, _, _, _]⟩ [box _ _ [_, _]] [_, _, _, _, _, _, _, _, _] rfl rfl rfl ?_
                refine JC_seq ?_
                refine JC_seq ?_
                refine JC_region ?_
                refine JL_move rfl ?_
                refine JL_move rfl ?_
                refine JL_len sl22 rfl ?_
                refine JL_lss rfl rfl ?_
                refine JL_split (fun h104 => ?_) (fun h104 => ?_)
                · refine JL_done_up 123 [box _ _ [_, _]] [_, _, _, _, _, _, _, _, _] rfl rfl (by simp only [nrmF]; rfl) rfl rfl ?_
                  refine JC_true rfl ?_
                  refine JC_skip ?_
                  refine JE_then ?_
                  refine JC_seq ?_
                  refine JC_block ?_
                  refine JC_seq ?_
                  refine JC_fesGet (f := true) (l := l78) (l78.getD j dF) (by repeat (first | with_reducible exact mm0 | refine mmS ?_)) (getD_mem (by omega)) ?_
                  refine JC_fesGet (f := true) (l := l72) (l72.getD j dF) (by repeat (first | with_reducible exact mm0 | refine mmS ?_)) (getD_mem (by omega)) ?_
                  have hqc : qs (ofq c 1) 3 := qs_int (by omega)
                  have hqd : qs (ofq d 1) 3 := qs_int (by omega)
                  have hqm : qs ((l72.getD j dF).q * ofq c 1) 6 := (fes_fqs hl72 j).mul hqc (by decide)
                  have hqs : qs ((l72.getD j dF).q * ofq c 1 + ofq d 1) 10 := hqm.add hqd (by decide)
                  refine JC_drawT mixed 14 [spV 107 [] _, spV 108 [] _, spV 109 [0, 1] _, spV 110 [2] _, spV 111 [] _, spV 112 [] _, spV 113 [4, 5] _, spV 114 [6] _, spV 115 [] _, spC 116 [8] _, spC 117 [7, 9] _, spV 118 [] _, spC 119 [11] _, spC 120 [10, 12] _] ⟨OblS_V (fun vals ex ψ => (by
                      refine JL_normQ ⟨123, [(107, _), (108, _), (109, _), (110, _), (111, _), (112, _), (113, _), (114, _), (115, _), (116, _), (117, _), (118, _), (119, _), (120, _)], _⟩ (_ :: _ :: _ :: _ :: _ :: _ :: _ :: _ :: _ :: _ :: _ :: _ :: _ :: ψ) rfl rfl ?_
                      refine JL_move rfl ?_
                      exact JL_nil (JE_stepV rfl ss0))), OblS_V (fun vals ex ψ => (by
                      refine JL_normQ ⟨123, [(107, _), (108, _), (109, _), (110, _), (111, _), (112, _), (113, _), (114, _), (115, _), (116, _), (117, _), (118, _), (119, _), (120, _)], _⟩ (_ :: _ :: _ :: _ :: _ :: _ :: _ :: _ :: _ :: _ :: _ :: _ :: _ :: ψ) rfl rfl ?_
                      refine JL_move rfl ?_
                      exact JL_nil (JE_stepV rfl ss0))), OblS_V (fun vals ex ψ => (by
                      refine JL_normQ ⟨123, [(107, _), (108, _), (109, _), (110, _), (111, _), (112, _), (113, _), (114, _), (115, _), (116, _), (117, _), (118, _), (119, _), (120, _)], _⟩ (_ :: _ :: _ :: _ :: _ :: _ :: _ :: _ :: _ :: _ :: _ :: _ :: _ :: ψ) rfl rfl ?_
                      refine JL_indexAddr j sl28 rfl rfl rfl (by omega) (by first | exact Reads.view (by repeat (first | with_reducible exact mm0 | refine mmS ?_))) (by rw [fcells_length]; omega) ?_
                      exact JL_nil (JE_stepV rfl ss0))), OblS_V (fun vals ex ψ => (by
                      refine JL_normQ ⟨123, [(107, _), (108, _), (109, _), (110, _), (111, _), (112, _), (113, _), (114, _), (115, _), (116, _), (117, _), (118, _), (119, _), (120, _)], _⟩ (_ :: _ :: _ :: _ :: _ :: _ :: _ :: _ :: _ :: _ :: _ :: _ :: _ :: ψ) rfl rfl ?_
                      refine JL_loadEA (vs := [_, _, _]) ty36 (Nat.zero_lt_succ _) rfl (by first | exact Reads.view (by repeat (first | with_reducible exact mm0 | refine mmS ?_))) (fcells_getA (by omega)) ?_
                      exact JL_nil (JE_stepV rfl ss0))), OblS_V (fun vals ex ψ => (by
                      refine JL_normQ ⟨123, [(107, _), (108, _), (109, _), (110, _), (111, _), (112, _), (113, _), (114, _), (115, _), (116, _), (117, _), (118, _), (119, _), (120, _)], _⟩ (_ :: _ :: _ :: _ :: _ :: _ :: _ :: _ :: _ :: _ :: _ :: _ :: _ :: ψ) rfl rfl ?_
                      refine JL_move rfl ?_
                      exact JL_nil (JE_stepV rfl ss0))), OblS_V (fun vals ex ψ => (by
                      refine JL_normQ ⟨123, [(107, _), (108, _), (109, _), (110, _), (111, _), (112, _), (113, _), (114, _), (115, _), (116, _), (117, _), (118, _), (119, _), (120, _)], _⟩ (_ :: _ :: _ :: _ :: _ :: _ :: _ :: _ :: _ :: _ :: _ :: _ :: _ :: ψ) rfl rfl ?_
                      refine JL_move rfl ?_
                      exact JL_nil (JE_stepV rfl ss0))), OblS_V (fun vals ex ψ => (by
                      refine JL_normQ ⟨123, [(107, _), (108, _), (109, _), (110, _), (111, _), (112, _), (113, _), (114, _), (115, _), (116, _), (117, _), (118, _), (119, _), (120, _)], _⟩ (_ :: _ :: _ :: _ :: _ :: _ :: _ :: _ :: _ :: _ :: _ :: _ :: _ :: ψ) rfl rfl ?_
                      refine JL_indexAddr j sl28 rfl rfl rfl (by omega) (by first | exact Reads.view (by repeat (first | with_reducible exact mm0 | refine mmS ?_))) (by rw [fcells_length]; omega) ?_
                      exact JL_nil (JE_stepV rfl ss0))), OblS_V (fun vals ex ψ => (by
                      refine JL_normQ ⟨123, [(107, _), (108, _), (109, _), (110, _), (111, _), (112, _), (113, _), (114, _), (115, _), (116, _), (117, _), (118, _), (119, _), (120, _)], _⟩ (_ :: _ :: _ :: _ :: _ :: _ :: _ :: _ :: _ :: _ :: _ :: _ :: _ :: ψ) rfl rfl ?_
                      refine JL_loadEA (vs := [_, _, _]) ty36 (Nat.zero_lt_succ _) rfl (by first | exact Reads.view (by repeat (first | with_reducible exact mm0 | refine mmS ?_))) (fcells_getA (by omega)) ?_
                      exact JL_nil (JE_stepV rfl ss0))), OblS_V (fun vals ex ψ => (by
                      refine JL_normQ ⟨123, [(107, _), (108, _), (109, _), (110, _), (111, _), (112, _), (113, _), (114, _), (115, _), (116, _), (117, _), (118, _), (119, _), (120, _)], _⟩ (_ :: _ :: _ :: _ :: _ :: _ :: _ :: _ :: _ :: _ :: _ :: _ :: _ :: ψ) rfl rfl ?_
                      refine JL_move rfl ?_
                      exact JL_nil (JE_stepV rfl ss0))), OblS_C (fun vals ex ψ => (by
                      refine JL_normQ ⟨123, [(107, _), (108, _), (109, _), (110, _), (111, _), (112, _), (113, _), (114, _), (115, _), (116, _), (117, _), (118, _), (119, _), (120, _)], _⟩ (_ :: _ :: _ :: _ :: _ :: _ :: _ :: _ :: _ :: _ :: _ :: _ :: _ :: ψ) rfl rfl ?_
                      refine JL_callF' Asks.nil (fofi_con c 1 (by omega) (by omega)) rfl ca19 ⟨rfl, rfl, rfl⟩ ?_
                      exact fun v φo hP => JL_nil (JE_stepC φo rfl hP (fun p hp => mapB_l hp) (fun p hp => mapB_r (ss0 p hp))))), OblS_C (fun vals ex ψ => (by
                      refine JL_normQ ⟨123, [(107, _), (108, _), (109, _), (110, _), (111, _), (112, _), (113, _), (114, _), (115, _), (116, _), (117, _), (118, _), (119, _), (120, _)], _⟩ (_ :: _ :: _ :: _ :: _ :: _ :: _ :: _ :: _ :: _ :: _ :: _ :: _ :: _ :: ψ) rfl rfl ?_
                      generalize vals 9 = x116
                      refine JL_usePost mm0 (fun φo hP => ?_)
                      obtain ⟨ad116, cp116, be116, ce116, rfl, rfl⟩ := hP
                      refine JL_norm _ _ (_ :: _ :: _ :: _ :: _ :: _ :: _ :: _ :: _ :: _ :: _ :: _ :: _ :: _ :: _ :: _ :: ψ) rfl rfl rfl ?_
                      refine JL_callF' (Asks.cons (holds_of_mem (by repeat (first | with_reducible exact mm0 | refine mmS ?_))) (Asks.cons (holds_of_mem (by repeat (first | with_reducible exact mm0 | refine mmS ?_))) (Asks.cons (holds_of_mem (by repeat (first | with_reducible exact mm0 | refine mmS ?_))) (Asks.cons (holds_of_mem (by repeat (first | with_reducible exact mm0 | refine mmS ?_))) Asks.nil)))) (fmulq_con (FIn.some ((fes_fqs hl72 j).mono (by decide))) (FIn.some (hqc.mono (by decide)))) rfl ca21 ⟨rfl, rfl, rfl⟩ ?_
                      exact fun v φo hP => JL_nil (JE_stepC φo rfl hP (fun p hp => mapB_l hp) (fun p hp => mapB_r ((ssS (ssS ss0)) p hp))))), OblS_V (fun vals ex ψ => (by
                      refine JL_normQ ⟨123, [(107, _), (108, _), (109, _), (110, _), (111, _), (112, _), (113, _), (114, _), (115, _), (116, _), (117, _), (118, _), (119, _), (120, _)], _⟩ (_ :: _ :: _ :: _ :: _ :: _ :: _ :: _ :: _ :: _ :: _ :: _ :: _ :: ψ) rfl rfl ?_
                      refine JL_move rfl ?_
                      exact JL_nil (JE_stepV rfl ss0))), OblS_C (fun vals ex ψ => (by
                      refine JL_normQ ⟨123, [(107, _), (108, _), (109, _), (110, _), (111, _), (112, _), (113, _), (114, _), (115, _), (116, _), (117, _), (118, _), (119, _), (120, _)], _⟩ (_ :: _ :: _ :: _ :: _ :: _ :: _ :: _ :: _ :: _ :: _ :: _ :: _ :: ψ) rfl rfl ?_
                      refine JL_callF' Asks.nil (fofi_con d 1 (by omega) (by omega)) rfl ca19 ⟨rfl, rfl, rfl⟩ ?_
                      exact fun v φo hP => JL_nil (JE_stepC φo rfl hP (fun p hp => mapB_l hp) (fun p hp => mapB_r (ss0 p hp))))), OblS_C (fun vals ex ψ => (by
                      refine JL_normQ ⟨123, [(107, _), (108, _), (109, _), (110, _), (111, _), (112, _), (113, _), (114, _), (115, _), (116, _), (117, _), (118, _), (119, _), (120, _)], _⟩ (_ :: _ :: _ :: _ :: _ :: _ :: _ :: _ :: _ :: _ :: _ :: _ :: _ :: _ :: _ :: ψ) rfl rfl ?_
                      generalize vals 10 = x117
                      refine JL_usePost mm0 (fun φo hP => ?_)
                      obtain ⟨ad117, cp117, be117, ce117, rfl, rfl⟩ := hP
                      refine JL_norm _ _ (_ :: _ :: _ :: _ :: _ :: _ :: _ :: _ :: _ :: _ :: _ :: _ :: _ :: _ :: _ :: _ :: _ :: ψ) rfl rfl rfl ?_
                      generalize vals 12 = x119
                      refine JL_usePost (mmS (mmS (mmS mm0))) (fun φo hP => ?_)
                      obtain ⟨ad119, cp119, be119, ce119, rfl, rfl⟩ := hP
                      refine JL_norm _ _ (_ :: _ :: _ :: _ :: _ :: _ :: _ :: _ :: _ :: _ :: _ :: _ :: _ :: _ :: _ :: _ :: _ :: _ :: _ :: ψ) rfl rfl rfl ?_
                      refine JL_callF' (Asks.cons (holds_of_mem (by repeat (first | with_reducible exact mm0 | refine mmS ?_))) (Asks.cons (holds_of_mem (by repeat (first | with_reducible exact mm0 | refine mmS ?_))) (Asks.cons (holds_of_mem (by repeat (first | with_reducible exact mm0 | refine mmS ?_))) (Asks.cons (holds_of_mem (by repeat (first | with_reducible exact mm0 | refine mmS ?_))) Asks.nil)))) (faddq_con (FIn.some (hqm.mono (by decide))) (FIn.some (hqd.mono (by decide)))) rfl ca20 ⟨rfl, rfl, rfl⟩ ?_
                      exact fun v φo hP => JL_nil (JE_stepC φo rfl hP (fun p hp => mapB_l hp) (fun p hp => mapB_r ((ssS (ssS (ssS (ssS ss0)))) p hp))))), trivial⟩ (by kernel_rfl) (fun vals bs => ?_)
                  refine JL_normL [_, _] ⟨123, [(107, _), (108, _), (109, _), (110, _), (111, _), (112, _), (113, _), (114, _), (115, _), (116, _), (117, _), (118, _), (119, _), (120, _)], _⟩ [box _ _ [_, _]] [_, _, _, _, _, _, _, _, _, _, _, _, _, _, _, _, _] rfl rfl rfl rfl ?_
                  generalize vals (0 + 1 + 1 + 1 + 1 + 1 + 1 + 1 + 1 + 1) = x116
                  generalize vals (0 + 1 + 1 + 1 + 1 + 1 + 1 + 1 + 1 + 1 + 1) = x117
                  generalize vals (0 + 1 + 1 + 1 + 1 + 1 + 1 + 1 + 1 + 1 + 1 + 1 + 1) = x119
                  generalize vals (0 + 1 + 1 + 1 + 1 + 1 + 1 + 1 + 1 + 1 + 1 + 1 + 1 + 1) = x120
                  refine JL_usePost (mmS (mmS (mmS mm0))) (fun φo hP => ?_)
                  obtain ⟨ad120, cp120, be120, ce120, rfl, rfl⟩ := hP
                  refine JL_norm _ [box _ _ [_, _]] [_, _, _, _, _, _, _, _, _, _, _, _, _, _, _, _, _, _, _] rfl rfl rfl ?_
                  refine JL_callF' (Asks.cons (holds_of_mem (by repeat (first | with_reducible exact mm0 | refine mmS ?_))) (Asks.cons (holds_of_mem (by repeat (first | with_reducible exact mm0 | refine mmS ?_))) (Asks.cons (holds_of_mem (by repeat (first | with_reducible exact mm0 | refine mmS ?_))) (Asks.cons (holds_of_mem (by repeat (first | with_reducible exact mm0 | refine mmS ?_))) Asks.nil)))) (fcmpq_con (FIn.some ((fes_fqs hl78 j).mono (by decide))) (FIn.some (hqs.mono (by decide)))) rfl ca14 ⟨rfl, rfl, rfl⟩ ?_
                  rintro _ _ ⟨rfl, rfl⟩
                  refine JL_neq rfl rfl ?_
                  refine JL_split (fun h122 => ?_) (fun h122 => ?_)
                  · exact absurd (cmpQ_zero.2 (by rw [fes_fq hl78, fes_fq hl72, mv_fit hz hc0 (Int.lt_add_one_iff.1 hc1) hd0 hd1 (by omega)])) h122
                  · refine JL_done_up 123 [box _ _ [_, _]] [_, _, _, _, _, _, _, _, _, _, _, _, _, _, _, _, _, _, _] rfl rfl (by simp only [nrmF]; rfl) rfl rfl ?_
                    refine JC_false rfl ?_
                    refine JC_skip ?_
                    refine JE_block_normal ?_
                    refine JE_then ?_
                    refine JC_region ?_
                    refine JL_move rfl ?_
                    refine JL_add_to rfl rfl (IntWalk.i64_in _ (by omega)) ?_
                    refine JL_assign rfl ?_
                    refine JL_nil_up 123 [box _ _ [_, _]] [_, _, _, _, _, _, _, _, _, _, _, _, _, _, _, _, _, _, _] rfl rfl (by simp only [nrmF]; rfl) rfl rfl ?_
                    refine JE_nextS (j + 1) (by kernel_rfl) ?_ ?_ (by kernel_rfl) ?_
                    · exact (by omega : j + 1 ≤ V.length)
                    · first | omega | (dsimp only; omega)
                    · exact subset_app subset_nil (ssS (ssS (ssS (ssS (ssS (ssS (ssS (ssS (ssS (ssS ss0))))))))))
                · refine JL_done_up 123 [box _ _ [_, _]] [_, _, _, _, _, _, _, _, _] rfl rfl (by simp only [nrmF]; rfl) rfl rfl ?_
                  refine JC_false rfl ?_
                  refine JC_exit ?_
                  refine JE_then_exit ?_
                  refine JE_nextS_exit ?_
                  refine JE_block_exit ?_
                  refine JE_then ?_
                  refine JC_seq ?_
                  refine JC_region ?_
                  refine JL_assign rfl ?_
                  refine JL_done_up 123 [box _ _ [_, _]] [_, _, _, _, _, _, _, _, _] rfl rfl (by simp only [nrmF]; rfl) rfl rfl ?_
                  refine JC_ret ?_
                  refine JE_ret (vs := [_]) [] Tryd.results7 ⟨rfl, rfl⟩ ?_ ?_
                  · exact ⟨rfl, rfl⟩
                  · exact all_nil
  · refine JL_guard_yes rfl rfl ?_
    refine JL_not rfl ?_
    rw [Bool.not_false]
    refine JL_pick_f rfl rfl ?_
    refine JL_move rfl ?_
    refine JL_guard_no rfl rfl ?_
    refine JL_guard_no rfl rfl ?_
    refine JL_guard_no rfl rfl ?_
    refine JL_guard_no rfl rfl ?_
    refine JL_pick_t rfl rfl ?_
    refine JL_done_up 123 [box _ _ [_, _]] [_, _] rfl rfl (by simp only [nrmF]; rfl) rfl rfl ?_
    refine JC_true rfl ?_
    refine JC_seq ?_
    refine JC_region ?_
    refine JL_callF' Asks.nil (iawake_con) rfl ca9 rfl ?_
    rintro _ _ ⟨rfl, rfl⟩
    refine JL_assign rfl ?_
    refine JL_done_up 123 [box _ _ [_, _]] [_, _] rfl rfl (by simp only [nrmF]; rfl) rfl rfl ?_
    refine JC_ret ?_
    refine JE_then_ret ?_
    refine JE_ret (vs := [_]) [] Tryd.results7 ⟨rfl, rfl⟩ ?_ ?_
    · exact ⟨rfl, rfl⟩
    · exact all_nil

end Go.Fw.K
