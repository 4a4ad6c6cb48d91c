/- Walks through functions of the given program: each meets its contract. (Printed by a program of this repo.) -/
import Derived.Test.YtgfldmhpindbpaaDoorC4
import Derived.Test.YtgfldmhpindbpaaDoorC5
import Derived.Test.YtgfldmhpindbpaaDoorM1
import Derived.Test.YtgfldmhpindbpaaDoorProg
namespace Go.Fw.P5
open Go Go.RowKit Go.Proofs Go.Nat9 Go.Fw
attribute [local irreducible] JC JL JE
theorem ca10 : callable Tryd.prog 10 = true := by kernel_rfl
theorem ca11 : callable Tryd.prog 11 = true := by kernel_rfl
theorem ca13 : callable Tryd.prog 13 = true := by kernel_rfl
theorem ca14 : callable Tryd.prog 14 = true := by kernel_rfl
theorem ca19 : callable Tryd.prog 19 = true := by kernel_rfl
theorem ca20 : callable Tryd.prog 20 = true := by kernel_rfl
theorem ca21 : callable Tryd.prog 21 = true := by kernel_rfl
theorem ca9 : callable Tryd.prog 9 = true := by kernel_rfl
theorem mixed : Tryd.prog.follows .mixedOrders = true := by kernel_rfl
theorem sl22 : slOf Tryd.prog 22 = some (3, 1, 8, [.int .i64 0]) := by kernel_rfl
theorem sl28 : slOf Tryd.prog 28 = some (36, 3, 56, [.bool false, .slice none 0 0, .slice none 0 0]) := by kernel_rfl
theorem ty3 : tyOf Tryd.prog 3 = some (false, 1) := by kernel_rfl
theorem ty36 : tyOf Tryd.prog 36 = some (true, 3) := by kernel_rfl
theorem z36 : zeroOf Tryd.prog 36 = some [.bool false, .slice none 0 0, .slice none 0 0] := by kernel_rfl
end Go.Fw.P5
namespace Go.Fw.K
open Go Go.RowKit Go.Proofs Go.Nat9 Go.Fw Go.Fw.P5
attribute [local irreducible] JC JL JE

set_option maxHeartbeats 1000000 in
set_option maxRecDepth 20000 in
theorem isotonicSums_con {adv adw : Option Addr} {cv cw : Nat} {V W : List Int} :
    ConF Tryd.prog 6 [.slice adv V.length cv, .slice adw W.length cw] [vCells adv (i64s V), vCells adw (i64s W)]
      (fun v φo => v = .bool true ∧ φo = []) := by
  refine ConF_of Tryd.func6 rfl 132 _ rfl rfl ?_
  intro w0
  refine JC_norm ⟨132, [], [_, _, _, _, _, _, _, _, _, _, _, _, _, _, _, _, _, _, _, _, _, _, _, _, _, _, _, _, _, _, _, _, _, _, _, _, _, _, _, _, _, _, _, _, _, _, _, _, _, _, _, _, _, _, _, _, _, _, _, _, _, _, _, _, _, _, _, _, _, _, _, _, _, _, _, _, _, _, _, _, _, _, _, _, _, _, _, _, _, _, _, _, _, _, _, _, _, _, _, _, _, _, _, _, _, _, _, _, _, _, _, _, _, _, _, _, _, _, _, _, _, _, _, _, _, _, _, _, _, _, _, _]⟩ [] [_, _] rfl rfl rfl ?_
  refine JC_seq ?_
  refine JC_region ?_
  refine JL_assign rfl ?_
  refine JL_done_up 132 [] [_, _] rfl rfl (by simp only [nrmF]; rfl) rfl rfl ?_
  refine JC_seq ?_
  refine JC_seq ?_
  refine JC_region ?_
  refine JL_callF' Asks.nil (iawake_con) rfl ca9 rfl ?_
  rintro _ _ ⟨rfl, rfl⟩
  refine JL_not rfl ?_
  rw [Bool.not_true]
  refine JL_move rfl ?_
  refine JL_guard_yes rfl rfl ?_
  refine JL_move rfl ?_
  refine JL_guard_yes rfl rfl ?_
  refine JL_move rfl ?_
  refine JL_guard_yes rfl rfl ?_
  refine JL_callF' (Asks.cons (holds_of_mem (by repeat (first | with_reducible exact mm0 | refine mmS ?_))) (Asks.cons (holds_of_mem (by repeat (first | with_reducible exact mm0 | refine mmS ?_))) Asks.nil)) (few0_con) rfl ca10 ⟨rfl, rfl, rfl, rfl⟩ ?_
  rintro _ _ ⟨rfl, rfl⟩
  refine JL_split (fun h19 => ?_) (fun h19 => ?_)
  · refine JL_guard_yes rfl rfl ?_
    refine JL_not rfl ?_
    rw [Bool.not_true]
    refine JL_pick_f rfl rfl ?_
    refine JL_move rfl ?_
    refine JL_guard_yes rfl rfl ?_
    refine JL_move rfl ?_
    refine JL_guard_yes rfl rfl ?_
    refine JL_move rfl ?_
    refine JL_guard_yes rfl rfl ?_
    refine JL_callF' (Asks.cons (holds_of_mem (by repeat (first | with_reducible exact mm0 | refine mmS ?_))) (Asks.cons (holds_of_mem (by repeat (first | with_reducible exact mm0 | refine mmS ?_))) Asks.nil)) (rdata_con) rfl ca11 ⟨rfl, rfl, rfl⟩ ?_
    rintro _ _ ⟨rfl, rfl⟩
    refine JL_guard_yes rfl rfl ?_
    refine JL_neq rfl rfl ?_
    refine JL_split (fun h26 => ?_) (fun h26 => ?_)
    · refine JL_pick_f rfl rfl ?_
      refine JL_done_up 132 [] [_, _] rfl rfl (by simp only [nrmF]; rfl) rfl rfl ?_
      refine JC_true rfl ?_
      refine JC_seq ?_
      refine JC_region ?_
      refine JL_callF' Asks.nil (iawake_con) rfl ca9 rfl ?_
      rintro _ _ ⟨rfl, rfl⟩
      refine JL_assign rfl ?_
      refine JL_done_up 132 [] [_, _] rfl rfl (by simp only [nrmF]; rfl) rfl rfl ?_
      refine JC_ret ?_
      refine JE_then_ret ?_
      refine JE_ret (vs := [_]) [] Tryd.results6 ⟨rfl, rfl⟩ ?_ ?_
      · exact ⟨rfl, rfl⟩
      · exact all_nil
    · refine JL_pick_f rfl rfl ?_
      refine JL_done_up 132 [] [_, _] rfl rfl (by simp only [nrmF]; rfl) rfl rfl ?_
      refine JC_false rfl ?_
      refine JC_skip ?_
      refine JE_then ?_
      refine JC_seq ?_
      have hz : chk V W = 0 := Classical.byContradiction h26
      obtain ⟨hn, hvw, hok⟩ := chk_zero hz
      refine JC_region ?_
      refine JL_move rfl ?_
      refine JL_move rfl ?_
      refine JL_callF' (Asks.cons (holds_of_mem (by repeat (first | with_reducible exact mm0 | refine mmS ?_))) (Asks.cons (holds_of_mem (by repeat (first | with_reducible exact mm0 | refine mmS ?_))) Asks.nil)) (ifit_con) rfl ca13 ⟨rfl, rfl, rfl⟩ ?_
      rintro _ _ ⟨ad32, c32, l32, rfl, hl32, rfl⟩
      rw [hz]
      have hn32 := fes_flen hz hl32
      refine JL_move rfl ?_
      refine JL_extract rfl rfl ?_
      refine JL_extract rfl rfl ?_
      refine JL_assign rfl ?_
      refine JL_assign rfl ?_
      refine JL_done_up 132 [] [_, _, _, _] rfl rfl (by simp only [nrmF]; rfl) rfl rfl ?_
      refine JC_seq ?_
      refine JC_seq ?_
      refine JC_region ?_
      refine JL_move rfl ?_
      refine JL_neq rfl rfl ?_
      refine JL_split (fun h36 => ?_) (fun h36 => ?_)
      · exact absurd rfl h36
      · refine JL_move rfl ?_
        refine JL_guard_yes rfl rfl ?_
        refine JL_move rfl ?_
        refine JL_guard_yes rfl rfl ?_
        refine JL_len sl28 rfl ?_
        refine JL_guard_yes rfl rfl ?_
        refine JL_move rfl ?_
        refine JL_guard_yes rfl rfl ?_
        refine JL_len sl22 rfl ?_
        refine JL_guard_yes rfl rfl ?_
        refine JL_neq rfl rfl ?_
        refine JL_split (fun h42 => ?_) (fun h42 => ?_)
        · exact absurd hn32 (by omega)
        · refine JL_pick_f rfl rfl ?_
          refine JL_done_up 132 [] [_, _, _, _] rfl rfl (by simp only [nrmF]; rfl) rfl rfl ?_
          refine JC_false rfl ?_
          refine JC_skip ?_
          refine JE_then ?_
          refine JC_seq ?_
          refine JC_region ?_
          refine JL_callF' Asks.nil (fofi_con 0 1 (by omega) (by omega)) rfl ca19 ⟨rfl, rfl, rfl⟩ ?_
          rintro _ _ ⟨ad44, cp44, be44, ce44, rfl, rfl⟩
          refine JL_callF' Asks.nil (fofi_con 0 1 (by omega) (by omega)) rfl ca19 ⟨rfl, rfl, rfl⟩ ?_
          rintro _ _ ⟨ad45, cp45, be45, ce45, rfl, rfl⟩
          refine JL_alloc z36 (fun b7 => ?_)
          refine JL_alloc z36 (fun b8 => ?_)
          refine JL_store (vs := [_, _, _]) 0 ty36 rfl rfl rfl (AllOne.cons rfl (AllOne.cons rfl (AllOne.cons rfl AllOne.nil))) rfl (Nat.le_of_ble_eq_true rfl) ?_
          refine JL_store (vs := [_, _, _]) 1 ty36 rfl rfl rfl (AllOne.cons rfl (AllOne.cons rfl (AllOne.cons rfl AllOne.nil))) rfl (Nat.le_of_ble_eq_true rfl) ?_
          refine JL_done_up 132 [box _ _ [_, _, _], box _ _ [_, _, _]] [_, _, _, _, _, _, _, _] rfl rfl (by simp only [nrmF]; rfl) rfl rfl ?_
          refine JC_seq ?_
          refine JC_region ?_
          refine JL_build0 sl22 (fun g46 => ?_)
          refine JL_move rfl ?_
          refine JL_appendIV (L := []) (M := V) 2 sl22 rfl rfl rfl (by first | exact Reads.view (by repeat (first | with_reducible exact mm0 | refine mmS ?_)) | (exact Reads.own 2 rfl)) (by first | rfl | assumption | (simp only [lenS]; omega)) (by omega) (by omega) (fun ad48 cap48 hc48 => ?_)
          rw [Nat.zero_add V.length, show ([] : List Int) ++ V = fillL (rmin V) (own0 V) V.length 0 from (own0_start V).symm]
          refine JL_assign rfl ?_
          refine JL_done_up 132 [box _ _ [_, _, _], box _ _ [_, _, _], osl _ _ _ _ _ _] [_, _, _, _, _, _, _, _] rfl rfl (by simp only [nrmF]; rfl) rfl rfl ?_
          refine JC_seq ?_
          refine JC_seq ?_
          refine JC_region ?_
          refine JL_assign rfl ?_
          refine JL_done_up 132 [box _ _ [_, _, _], box _ _ [_, _, _], osl _ _ _ _ _ _] [_, _, _, _, _, _, _, _] rfl rfl (by simp only [nrmF]; rfl) rfl rfl ?_
          refine JC_block ?_
          refine JC_loopS ((Nat) × (Rat) × (Option Addr) × (Nat) × (Option Addr) × (Nat) × (Rat) × (Option Addr) × (Nat) × (Option Addr) × (Nat)) (fun (i, qa, ada, ca, bea, ea, qb, adb, cb, beb, eb) => i ≤ V.length ∧ qa = ((ps V W i : Int) : Rat) ∧ qb = wfs W (fun k => (fitL V W).getD k 0) i ∧ qs qa (5 * i + 4) ∧ qs qb (8 * i + 4)) (fun (i, qa, ada, ca, bea, ea, qb, adb, cb, beb, eb) => V.length - i) (fun u (i, qa, ada, ca, bea, ea, qb, adb, cb, beb, eb) => [none, none, none, none, none, none, none, none, none, none, some (.int .i64 (i : Nat)), none, none, none, none, none, none, none, none, none, none, none, none, none, none, none, none, none, none, none, none, none, none, none, none, none, none, none, none, none, none, none, none, none, none, none, none, none, none, some (u 49), some (u 50), some (u 51), some (u 52), some (u 53), some (u 54), some (u 55), some (u 56), some (u 57), some (u 58), some (u 59), some (u 60), some (u 61), some (u 62), some (u 63), some (u 64), some (u 65), some (u 66), some (u 67), some (u 68), some (u 69), some (u 70), some (u 71), some (u 72), some (u 73), some (u 74), some (u 75), some (u 76), some (u 77), some (u 78), some (u 79), some (u 80), some (u 81), some (u 82), some (u 83), some (u 84), some (u 85), some (u 86), some (u 87), some (u 88), some (u 89), some (u 90), some (u 91), some (u 92), some (u 93), none, none, none, none, none, none, none, none, none, none, none, none, none, none, none, none, none, none, none, none, none, none, none, none, none, none, none, none, none, none, none, none, none, none, none, none, none, none]) (fun (i, qa, ada, ca, bea, ea, qb, adb, cb, beb, eb) => [some (box b7 36 [.bool (fneg (some qa)), .slice ada (fnum (some qa)).length ca, .slice bea (fden (some qa)).length ea]), some (box b8 36 [.bool (fneg (some qb)), .slice adb (fnum (some qb)).length cb, .slice beb (fden (some qb)).length eb]), some (osl ad48 V.length cap48 3 1 (i64s (fillL (rmin V) (own0 V) V.length i)))]) (fun (i, qa, ada, ca, bea, ea, qb, adb, cb, beb, eb) => [(true, vCells ada (u32s (fnum (some qa)))), (true, vCells bea (u32s (fden (some qa)))), (true, vCells adb (u32s (fnum (some qb)))), (true, vCells beb (u32s (fden (some qb))))]) (0, ofq 0 1, ad44, cp44, be44, ce44, ofq 0 1, ad45, cp45, be45, ce45) (by kernel_rfl) ?_ (by kernel_rfl) ?_ ?_
          · exact ⟨Nat.zero_le _, ofq_one 0, ofq_one 0, (qs_int (by decide)).mono (by decide), (qs_int (by decide)).mono (by decide)⟩
          · exact (subset_cons (by repeat (first | with_reducible exact mm0 | refine mmS ?_)) (subset_cons (by repeat (first | with_reducible exact mm0 | refine mmS ?_)) (subset_cons (by repeat (first | with_reducible exact mm0 | refine mmS ?_)) (subset_cons (by repeat (first | with_reducible exact mm0 | refine mmS ?_)) subset_nil))))
          intro u i hC
          obtain ⟨i, qa, ada, ca, bea, ea, qb, adb, cb, beb, eb⟩ := i
          obtain ⟨hi, hqa, hqb, hsa, hsb⟩ := hC
          refine JC_norm ⟨132, [], [_, _, _, _, _, _, _, _, _, _, _, _, _, _, _, _, _, _, _, _, _, _, _, _, _, _, _, _, _, _, _, _, _, _, _, _, _, _, _, _, _, _, _, _, _, _, _, _, _, _, _, _, _, _, _, _, _, _, _, _, _, _, _, _, _, _, _, _, _, _, _, _, _, _, _, _, _, _, _, _, _, _, _, _, _, _, _, _, _, _, _, _, _, _, _, _, _, _, _, _, _, _, _, _, _, _, _, _, _, _, _, _, _, _, _, _, _, _, _, _, _, _, _, _, _, _, _, _, _, _, _, _]⟩ [box _ _ [_, _, _], box _ _ [_, _, _], osl _ _ _ _ _ _] [_, _, _, _, _, _, _, _, _, _, _, _] rfl rfl rfl ?_
          refine JC_seq ?_
          refine JC_seq ?_
          refine JC_region ?_
          refine JL_move rfl ?_
          refine JL_move rfl ?_
          refine JL_len sl22 rfl ?_
          refine JL_lss rfl rfl ?_
          refine JL_split (fun h52 => ?_) (fun h52 => ?_)
          · refine JL_done_up 132 [box _ _ [_, _, _], box _ _ [_, _, _], osl _ _ _ _ _ _] [_, _, _, _, _, _, _, _, _, _, _, _] rfl rfl (by simp only [nrmF]; rfl) rfl rfl ?_
            refine JC_true rfl ?_
            refine JC_skip ?_
            refine JE_then ?_
            refine JC_seq ?_
            refine JC_block ?_
            refine JC_seq ?_
            have hka := hok i (by omega)
            obtain ⟨x1, x2, x3, x4⟩ := hka
            have hmu := mul_in (A := 1000000) (B := 1000) (x := V.getD i 0) (by omega) x2 (y := W.getD i 0) (by omega) x4 (by omega)
            have hq1 : qs (ofq (V.getD i 0 * W.getD i 0) 1) 3 := qs_int (by omega)
            have hqa1 : qs (qa + ofq (V.getD i 0 * W.getD i 0) 1) (5 * (i + 1) + 4) := hsa.add hq1 (by omega)
            refine JC_drawT mixed 11 [spV 55 [] _, spV 56 [] _, spV 57 [] _, spV 58 [1, 2] _, spV 59 [3] _, spV 60 [] _, spV 61 [] _, spV 62 [5, 6] _, spV 63 [7] _, spV 64 [4, 8] _, spC 65 [9] _] ⟨OblS_V (fun vals ex ψ => (by
                refine JL_normQ ⟨132, [(55, _), (56, _), (57, _), (58, _), (59, _), (60, _), (61, _), (62, _), (63, _), (64, _), (65, _)], _⟩ (_ :: _ :: _ :: _ :: _ :: _ :: _ :: _ :: _ :: _ :: _ :: _ :: ψ) rfl rfl ?_
                refine JL_loadA (vs := [_, _, _]) 0 ty36 rfl rfl ⟨rfl, rfl, rfl, trivial⟩ ?_
                exact JL_nil (JE_stepV rfl ss0))), OblS_V (fun vals ex ψ => (by
                refine JL_normQ ⟨132, [(55, _), (56, _), (57, _), (58, _), (59, _), (60, _), (61, _), (62, _), (63, _), (64, _), (65, _)], _⟩ (_ :: _ :: _ :: _ :: _ :: _ :: _ :: _ :: _ :: _ :: _ :: _ :: ψ) rfl rfl ?_
                refine JL_move rfl ?_
                exact JL_nil (JE_stepV rfl ss0))), OblS_V (fun vals ex ψ => (by
                refine JL_normQ ⟨132, [(55, _), (56, _), (57, _), (58, _), (59, _), (60, _), (61, _), (62, _), (63, _), (64, _), (65, _)], _⟩ (_ :: _ :: _ :: _ :: _ :: _ :: _ :: _ :: _ :: _ :: _ :: _ :: ψ) rfl rfl ?_
                refine JL_move rfl ?_
                exact JL_nil (JE_stepV rfl ss0))), OblS_V (fun vals ex ψ => (by
                refine JL_normQ ⟨132, [(55, _), (56, _), (57, _), (58, _), (59, _), (60, _), (61, _), (62, _), (63, _), (64, _), (65, _)], _⟩ (_ :: _ :: _ :: _ :: _ :: _ :: _ :: _ :: _ :: _ :: _ :: _ :: ψ) rfl rfl ?_
                refine JL_idx i sl22 rfl rfl rfl (by omega) (by first | exact Reads.view (by repeat (first | with_reducible exact mm0 | refine mmS ?_)) | (exact Reads.own 2 rfl)) (by first | (rw [u32s_length]; omega) | (rw [i64s_length]; omega)) ?_
                exact JL_nil (JE_stepV rfl ss0))), OblS_V (fun vals ex ψ => (by
                refine JL_normQ ⟨132, [(55, _), (56, _), (57, _), (58, _), (59, _), (60, _), (61, _), (62, _), (63, _), (64, _), (65, _)], _⟩ (_ :: _ :: _ :: _ :: _ :: _ :: _ :: _ :: _ :: _ :: _ :: _ :: ψ) rfl rfl ?_
                refine JL_loadE ty3 rfl (by first | exact Reads.view (by repeat (first | with_reducible exact mm0 | refine mmS ?_)) | (exact Reads.own 2 rfl)) (i64s_get (by omega)) ?_
                exact JL_nil (JE_stepV rfl ss0))), OblS_V (fun vals ex ψ => (by
                refine JL_normQ ⟨132, [(55, _), (56, _), (57, _), (58, _), (59, _), (60, _), (61, _), (62, _), (63, _), (64, _), (65, _)], _⟩ (_ :: _ :: _ :: _ :: _ :: _ :: _ :: _ :: _ :: _ :: _ :: _ :: ψ) rfl rfl ?_
                refine JL_move rfl ?_
                exact JL_nil (JE_stepV rfl ss0))), OblS_V (fun vals ex ψ => (by
                refine JL_normQ ⟨132, [(55, _), (56, _), (57, _), (58, _), (59, _), (60, _), (61, _), (62, _), (63, _), (64, _), (65, _)], _⟩ (_ :: _ :: _ :: _ :: _ :: _ :: _ :: _ :: _ :: _ :: _ :: _ :: ψ) rfl rfl ?_
                refine JL_move rfl ?_
                exact JL_nil (JE_stepV rfl ss0))), OblS_V (fun vals ex ψ => (by
                refine JL_normQ ⟨132, [(55, _), (56, _), (57, _), (58, _), (59, _), (60, _), (61, _), (62, _), (63, _), (64, _), (65, _)], _⟩ (_ :: _ :: _ :: _ :: _ :: _ :: _ :: _ :: _ :: _ :: _ :: _ :: ψ) rfl rfl ?_
                refine JL_idx i sl22 rfl rfl rfl (by omega) (by first | exact Reads.view (by repeat (first | with_reducible exact mm0 | refine mmS ?_)) | (exact Reads.own 2 rfl)) (by first | (rw [u32s_length]; omega) | (rw [i64s_length]; omega)) ?_
                exact JL_nil (JE_stepV rfl ss0))), OblS_V (fun vals ex ψ => (by
                refine JL_normQ ⟨132, [(55, _), (56, _), (57, _), (58, _), (59, _), (60, _), (61, _), (62, _), (63, _), (64, _), (65, _)], _⟩ (_ :: _ :: _ :: _ :: _ :: _ :: _ :: _ :: _ :: _ :: _ :: _ :: ψ) rfl rfl ?_
                refine JL_loadE ty3 rfl (by first | exact Reads.view (by repeat (first | with_reducible exact mm0 | refine mmS ?_)) | (exact Reads.own 2 rfl)) (i64s_get (by omega)) ?_
                exact JL_nil (JE_stepV rfl ss0))), OblS_V (fun vals ex ψ => (by
                refine JL_normQ ⟨132, [(55, _), (56, _), (57, _), (58, _), (59, _), (60, _), (61, _), (62, _), (63, _), (64, _), (65, _)], _⟩ (_ :: _ :: _ :: _ :: _ :: _ :: _ :: _ :: _ :: _ :: _ :: _ :: ψ) rfl rfl ?_
                refine JL_mul_to rfl rfl (IntWalk.i64_in _ (by omega)) ?_
                exact JL_nil (JE_stepV rfl ss0))), OblS_C (fun vals ex ψ => (by
                refine JL_normQ ⟨132, [(55, _), (56, _), (57, _), (58, _), (59, _), (60, _), (61, _), (62, _), (63, _), (64, _), (65, _)], _⟩ (_ :: _ :: _ :: _ :: _ :: _ :: _ :: _ :: _ :: _ :: _ :: _ :: ψ) rfl rfl ?_
                refine JL_callF' Asks.nil (fofi_con (V.getD i 0 * W.getD i 0) 1 (by omega) (by omega)) rfl ca19 ⟨rfl, rfl, rfl⟩ ?_
                exact fun v φo hP => JL_nil (JE_stepC φo rfl hP (fun p hp => mapB_l hp) (fun p hp => mapB_r (ss0 p hp))))), trivial⟩ (by kernel_rfl) (fun vals bs => ?_)
            refine JL_normL [_, _] ⟨132, [(55, _), (56, _), (57, _), (58, _), (59, _), (60, _), (61, _), (62, _), (63, _), (64, _), (65, _)], _⟩ [box _ _ [_, _, _], box _ _ [_, _, _], osl _ _ _ _ _ _] [_, _, _, _, _, _, _, _, _, _, _, _, _] rfl rfl rfl rfl ?_
            generalize vals (0 + 1 + 1 + 1 + 1 + 1 + 1 + 1 + 1 + 1 + 1) = x65
            refine JL_usePost mm0 (fun φo hP => ?_)
            obtain ⟨ad65, cp65, be65, ce65, rfl, rfl⟩ := hP
            refine JL_norm _ [box _ _ [_, _, _], box _ _ [_, _, _], osl _ _ _ _ _ _] [_, _, _, _, _, _, _, _, _, _, _, _, _, _, _] rfl rfl rfl ?_
            refine JL_callF' (Asks.cons (by first | exact holds_of_mem (by repeat (first | with_reducible exact mm0 | refine mmS ?_)) | (exact holds_of_own 2 rfl)) (Asks.cons (by first | exact holds_of_mem (by repeat (first | with_reducible exact mm0 | refine mmS ?_)) | (exact holds_of_own 2 rfl)) (Asks.cons (by first | exact holds_of_mem (by repeat (first | with_reducible exact mm0 | refine mmS ?_)) | (exact holds_of_own 2 rfl)) (Asks.cons (by first | exact holds_of_mem (by repeat (first | with_reducible exact mm0 | refine mmS ?_)) | (exact holds_of_own 2 rfl)) Asks.nil)))) (faddq_con (FIn.some (hsa.mono (by omega))) (FIn.some (hq1.mono (by decide)))) rfl ca20 ⟨rfl, rfl, rfl⟩ ?_
            rintro _ _ ⟨ad66, cp66, be66, ce66, rfl, rfl⟩
            refine JL_store (vs := [_, _, _]) 0 ty36 rfl rfl rfl (AllOne.cons rfl (AllOne.cons rfl (AllOne.cons rfl AllOne.nil))) rfl (Nat.le_of_ble_eq_true rfl) ?_
            refine JL_done_up 132 [box _ _ [_, _, _], box _ _ [_, _, _], osl _ _ _ _ _ _] [_, _, _, _, _, _, _, _, _, _, _, _, _, _, _, _, _] rfl rfl (by simp only [nrmF]; rfl) rfl rfl ?_
            refine JC_seq ?_
            refine JC_fesGet (f := true) (l := l32) (l32.getD i dF) (by repeat (first | with_reducible exact mm0 | refine mmS ?_)) (getD_mem (by omega)) ?_
            have hqw : qs (ofq (W.getD i 0) 1) 3 := qs_int (by omega)
            have hqm : qs (ofq (W.getD i 0) 1 * (l32.getD i dF).q) 6 := hqw.mul (fes_fqs hl32 i) (by decide)
            have hqb1 : qs (qb + ofq (W.getD i 0) 1 * (l32.getD i dF).q) (8 * (i + 1) + 4) := hsb.add hqm (by omega)
            refine JC_drawT mixed 11 [spV 67 [] _, spV 68 [] _, spV 69 [] _, spV 70 [1, 2] _, spV 71 [3] _, spC 72 [4] _, spV 73 [] _, spV 74 [] _, spV 75 [6, 7] _, spV 76 [8] _, spC 77 [5, 9] _] ⟨OblS_V (fun vals ex ψ => (by
                refine JL_normQ ⟨132, [(67, _), (68, _), (69, _), (70, _), (71, _), (72, _), (73, _), (74, _), (75, _), (76, _), (77, _)], _⟩ (_ :: _ :: _ :: _ :: _ :: _ :: _ :: _ :: _ :: _ :: _ :: _ :: _ :: _ :: _ :: _ :: _ :: _ :: _ :: ψ) rfl rfl ?_
                refine JL_loadA (vs := [_, _, _]) 1 ty36 rfl rfl ⟨rfl, rfl, rfl, trivial⟩ ?_
                exact JL_nil (JE_stepV rfl ss0))), OblS_V (fun vals ex ψ => (by
                refine JL_normQ ⟨132, [(67, _), (68, _), (69, _), (70, _), (71, _), (72, _), (73, _), (74, _), (75, _), (76, _), (77, _)], _⟩ (_ :: _ :: _ :: _ :: _ :: _ :: _ :: _ :: _ :: _ :: _ :: _ :: _ :: _ :: _ :: _ :: _ :: _ :: _ :: ψ) rfl rfl ?_
                refine JL_move rfl ?_
                exact JL_nil (JE_stepV rfl ss0))), OblS_V (fun vals ex ψ => (by
                refine JL_normQ ⟨132, [(67, _), (68, _), (69, _), (70, _), (71, _), (72, _), (73, _), (74, _), (75, _), (76, _), (77, _)], _⟩ (_ :: _ :: _ :: _ :: _ :: _ :: _ :: _ :: _ :: _ :: _ :: _ :: _ :: _ :: _ :: _ :: _ :: _ :: _ :: ψ) rfl rfl ?_
                refine JL_move rfl ?_
                exact JL_nil (JE_stepV rfl ss0))), OblS_V (fun vals ex ψ => (by
                refine JL_normQ ⟨132, [(67, _), (68, _), (69, _), (70, _), (71, _), (72, _), (73, _), (74, _), (75, _), (76, _), (77, _)], _⟩ (_ :: _ :: _ :: _ :: _ :: _ :: _ :: _ :: _ :: _ :: _ :: _ :: _ :: _ :: _ :: _ :: _ :: _ :: _ :: ψ) rfl rfl ?_
                refine JL_idx i sl22 rfl rfl rfl (by omega) (by first | exact Reads.view (by repeat (first | with_reducible exact mm0 | refine mmS ?_)) | (exact Reads.own 2 rfl)) (by first | (rw [u32s_length]; omega) | (rw [i64s_length]; omega)) ?_
                exact JL_nil (JE_stepV rfl ss0))), OblS_V (fun vals ex ψ => (by
                refine JL_normQ ⟨132, [(67, _), (68, _), (69, _), (70, _), (71, _), (72, _), (73, _), (74, _), (75, _), (76, _), (77, _)], _⟩ (_ :: _ :: _ :: _ :: _ :: _ :: _ :: _ :: _ :: _ :: _ :: _ :: _ :: _ :: _ :: _ :: _ :: _ :: _ :: ψ) rfl rfl ?_
                refine JL_loadE ty3 rfl (by first | exact Reads.view (by repeat (first | with_reducible exact mm0 | refine mmS ?_)) | (exact Reads.own 2 rfl)) (i64s_get (by omega)) ?_
                exact JL_nil (JE_stepV rfl ss0))), OblS_C (fun vals ex ψ => (by
                refine JL_normQ ⟨132, [(67, _), (68, _), (69, _), (70, _), (71, _), (72, _), (73, _), (74, _), (75, _), (76, _), (77, _)], _⟩ (_ :: _ :: _ :: _ :: _ :: _ :: _ :: _ :: _ :: _ :: _ :: _ :: _ :: _ :: _ :: _ :: _ :: _ :: _ :: ψ) rfl rfl ?_
                refine JL_callF' Asks.nil (fofi_con (W.getD i 0) 1 (by omega) (by omega)) rfl ca19 ⟨rfl, rfl, rfl⟩ ?_
                exact fun v φo hP => JL_nil (JE_stepC φo rfl hP (fun p hp => mapB_l hp) (fun p hp => mapB_r (ss0 p hp))))), OblS_V (fun vals ex ψ => (by
                refine JL_normQ ⟨132, [(67, _), (68, _), (69, _), (70, _), (71, _), (72, _), (73, _), (74, _), (75, _), (76, _), (77, _)], _⟩ (_ :: _ :: _ :: _ :: _ :: _ :: _ :: _ :: _ :: _ :: _ :: _ :: _ :: _ :: _ :: _ :: _ :: _ :: _ :: ψ) rfl rfl ?_
                refine JL_move rfl ?_
                exact JL_nil (JE_stepV rfl ss0))), OblS_V (fun vals ex ψ => (by
                refine JL_normQ ⟨132, [(67, _), (68, _), (69, _), (70, _), (71, _), (72, _), (73, _), (74, _), (75, _), (76, _), (77, _)], _⟩ (_ :: _ :: _ :: _ :: _ :: _ :: _ :: _ :: _ :: _ :: _ :: _ :: _ :: _ :: _ :: _ :: _ :: _ :: _ :: ψ) rfl rfl ?_
                refine JL_move rfl ?_
                exact JL_nil (JE_stepV rfl ss0))), OblS_V (fun vals ex ψ => (by
                refine JL_normQ ⟨132, [(67, _), (68, _), (69, _), (70, _), (71, _), (72, _), (73, _), (74, _), (75, _), (76, _), (77, _)], _⟩ (_ :: _ :: _ :: _ :: _ :: _ :: _ :: _ :: _ :: _ :: _ :: _ :: _ :: _ :: _ :: _ :: _ :: _ :: _ :: ψ) rfl rfl ?_
                refine JL_indexAddr i sl28 rfl rfl rfl (by omega) (by first | exact Reads.view (by repeat (first | with_reducible exact mm0 | refine mmS ?_)) | (exact Reads.own 2 rfl)) (by rw [fcells_length]; omega) ?_
                exact JL_nil (JE_stepV rfl ss0))), OblS_V (fun vals ex ψ => (by
                refine JL_normQ ⟨132, [(67, _), (68, _), (69, _), (70, _), (71, _), (72, _), (73, _), (74, _), (75, _), (76, _), (77, _)], _⟩ (_ :: _ :: _ :: _ :: _ :: _ :: _ :: _ :: _ :: _ :: _ :: _ :: _ :: _ :: _ :: _ :: _ :: _ :: _ :: ψ) rfl rfl ?_
                refine JL_loadEA (vs := [_, _, _]) ty36 (Nat.zero_lt_succ _) rfl (by first | exact Reads.view (by repeat (first | with_reducible exact mm0 | refine mmS ?_)) | (exact Reads.own 2 rfl)) (fcells_getA (by omega)) ?_
                exact JL_nil (JE_stepV rfl ss0))), OblS_C (fun vals ex ψ => (by
                refine JL_normQ ⟨132, [(67, _), (68, _), (69, _), (70, _), (71, _), (72, _), (73, _), (74, _), (75, _), (76, _), (77, _)], _⟩ (_ :: _ :: _ :: _ :: _ :: _ :: _ :: _ :: _ :: _ :: _ :: _ :: _ :: _ :: _ :: _ :: _ :: _ :: _ :: _ :: ψ) rfl rfl ?_
                generalize vals 5 = x72
                refine JL_usePost mm0 (fun φo hP => ?_)
                obtain ⟨ad72, cp72, be72, ce72, rfl, rfl⟩ := hP
                refine JL_norm _ _ (_ :: _ :: _ :: _ :: _ :: _ :: _ :: _ :: _ :: _ :: _ :: _ :: _ :: _ :: _ :: _ :: _ :: _ :: _ :: _ :: _ :: _ :: ψ) rfl rfl rfl ?_
                refine JL_callF' (Asks.cons (by first | exact holds_of_mem (by repeat (first | with_reducible exact mm0 | refine mmS ?_)) | (exact holds_of_own 2 rfl)) (Asks.cons (by first | exact holds_of_mem (by repeat (first | with_reducible exact mm0 | refine mmS ?_)) | (exact holds_of_own 2 rfl)) (Asks.cons (by first | exact holds_of_mem (by repeat (first | with_reducible exact mm0 | refine mmS ?_)) | (exact holds_of_own 2 rfl)) (Asks.cons (by first | exact holds_of_mem (by repeat (first | with_reducible exact mm0 | refine mmS ?_)) | (exact holds_of_own 2 rfl)) Asks.nil)))) (fmulq_con (FIn.some (hqw.mono (by decide))) (FIn.some ((fes_fqs hl32 i).mono (by decide)))) rfl ca21 ⟨rfl, rfl, rfl⟩ ?_
                exact fun v φo hP => JL_nil (JE_stepC φo rfl hP (fun p hp => mapB_l hp) (fun p hp => mapB_r ((ssS (ssS ss0)) p hp))))), trivial⟩ (by kernel_rfl) (fun vals bs => ?_)
            refine JL_normL [_, _] ⟨132, [(67, _), (68, _), (69, _), (70, _), (71, _), (72, _), (73, _), (74, _), (75, _), (76, _), (77, _)], _⟩ [box _ _ [_, _, _], box _ _ [_, _, _], osl _ _ _ _ _ _] [_, _, _, _, _, _, _, _, _, _, _, _, _, _, _, _, _, _, _, _, _] rfl rfl rfl rfl ?_
            generalize vals (0 + 1 + 1 + 1 + 1 + 1) = x72
            generalize vals (0 + 1 + 1 + 1 + 1 + 1 + 1 + 1 + 1 + 1 + 1) = x77
            refine JL_usePost (mmS mm0) (fun φo hP => ?_)
            obtain ⟨ad77, cp77, be77, ce77, rfl, rfl⟩ := hP
            refine JL_norm _ [box _ _ [_, _, _], box _ _ [_, _, _], osl _ _ _ _ _ _] [_, _, _, _, _, _, _, _, _, _, _, _, _, _, _, _, _, _, _, _, _, _, _] rfl rfl rfl ?_
            refine JL_callF' (Asks.cons (by first | exact holds_of_mem (by repeat (first | with_reducible exact mm0 | refine mmS ?_)) | (exact holds_of_own 2 rfl)) (Asks.cons (by first | exact holds_of_mem (by repeat (first | with_reducible exact mm0 | refine mmS ?_)) | (exact holds_of_own 2 rfl)) (Asks.cons (by first | exact holds_of_mem (by repeat (first | with_reducible exact mm0 | refine mmS ?_)) | (exact holds_of_own 2 rfl)) (Asks.cons (by first | exact holds_of_mem (by repeat (first | with_reducible exact mm0 | refine mmS ?_)) | (exact holds_of_own 2 rfl)) Asks.nil)))) (faddq_con (FIn.some (hsb.mono (by omega))) (FIn.some (hqm.mono (by decide)))) rfl ca20 ⟨rfl, rfl, rfl⟩ ?_
            rintro _ _ ⟨ad78, cp78, be78, ce78, rfl, rfl⟩
            refine JL_store (vs := [_, _, _]) 1 ty36 rfl rfl rfl (AllOne.cons rfl (AllOne.cons rfl (AllOne.cons rfl AllOne.nil))) rfl (Nat.le_of_ble_eq_true rfl) ?_
            refine JL_done_up 132 [box _ _ [_, _, _], box _ _ [_, _, _], osl _ _ _ _ _ _] [_, _, _, _, _, _, _, _, _, _, _, _, _, _, _, _, _, _, _, _, _, _, _, _, _] rfl rfl (by simp only [nrmF]; rfl) rfl rfl ?_
            refine JC_seq ?_
            refine JC_region ?_
            refine JL_move rfl ?_
            refine JL_gtr rfl rfl ?_
            refine JL_split (fun h80 => ?_) (fun h80 => ?_)
            · refine JL_done_up 132 [box _ _ [_, _, _], box _ _ [_, _, _], osl _ _ _ _ _ _] [_, _, _, _, _, _, _, _, _, _, _, _, _, _, _, _, _, _, _, _, _, _, _, _, _] rfl rfl (by simp only [nrmF]; rfl) rfl rfl ?_
              refine JC_true rfl ?_
              refine JC_drawT mixed 12 [spV 81 [] _, spV 82 [] _, spV 83 [] _, spV 84 [] _, spV 85 [2, 3] _, spV 86 [4] _, spV 87 [] _, spV 88 [] _, spV 89 [7] _, spV 90 [6, 8] _, spV 91 [9] _, spV 92 [5, 10] _] ⟨OblS_V (fun vals ex ψ => (by
                  refine JL_normQ ⟨132, [(81, _), (82, _), (83, _), (84, _), (85, _), (86, _), (87, _), (88, _), (89, _), (90, _), (91, _), (92, _)], _⟩ (_ :: _ :: _ :: _ :: _ :: _ :: _ :: _ :: _ :: _ :: _ :: _ :: _ :: _ :: _ :: _ :: _ :: _ :: _ :: _ :: _ :: _ :: _ :: _ :: _ :: ψ) rfl rfl ?_
                  refine JL_move rfl ?_
                  exact JL_nil (JE_stepV rfl ss0))), OblS_V (fun vals ex ψ => (by
                  refine JL_normQ ⟨132, [(81, _), (82, _), (83, _), (84, _), (85, _), (86, _), (87, _), (88, _), (89, _), (90, _), (91, _), (92, _)], _⟩ (_ :: _ :: _ :: _ :: _ :: _ :: _ :: _ :: _ :: _ :: _ :: _ :: _ :: _ :: _ :: _ :: _ :: _ :: _ :: _ :: _ :: _ :: _ :: _ :: _ :: ψ) rfl rfl ?_
                  refine JL_move rfl ?_
                  exact JL_nil (JE_stepV rfl ss0))), OblS_V (fun vals ex ψ => (by
                  refine JL_normQ ⟨132, [(81, _), (82, _), (83, _), (84, _), (85, _), (86, _), (87, _), (88, _), (89, _), (90, _), (91, _), (92, _)], _⟩ (_ :: _ :: _ :: _ :: _ :: _ :: _ :: _ :: _ :: _ :: _ :: _ :: _ :: _ :: _ :: _ :: _ :: _ :: _ :: _ :: _ :: _ :: _ :: _ :: _ :: ψ) rfl rfl ?_
                  refine JL_move rfl ?_
                  exact JL_nil (JE_stepV rfl ss0))), OblS_V (fun vals ex ψ => (by
                  refine JL_normQ ⟨132, [(81, _), (82, _), (83, _), (84, _), (85, _), (86, _), (87, _), (88, _), (89, _), (90, _), (91, _), (92, _)], _⟩ (_ :: _ :: _ :: _ :: _ :: _ :: _ :: _ :: _ :: _ :: _ :: _ :: _ :: _ :: _ :: _ :: _ :: _ :: _ :: _ :: _ :: _ :: _ :: _ :: _ :: ψ) rfl rfl ?_
                  refine JL_move rfl ?_
                  exact JL_nil (JE_stepV rfl ss0))), OblS_V (fun vals ex ψ => (by
                  refine JL_normQ ⟨132, [(81, _), (82, _), (83, _), (84, _), (85, _), (86, _), (87, _), (88, _), (89, _), (90, _), (91, _), (92, _)], _⟩ (_ :: _ :: _ :: _ :: _ :: _ :: _ :: _ :: _ :: _ :: _ :: _ :: _ :: _ :: _ :: _ :: _ :: _ :: _ :: _ :: _ :: _ :: _ :: _ :: _ :: ψ) rfl rfl ?_
                  refine JL_idx i sl22 rfl rfl rfl (by omega) (Reads.own 2 rfl) (by rw [i64s_length, fillL_len]; omega) ?_
                  exact JL_nil (JE_stepV rfl ss0))), OblS_V (fun vals ex ψ => (by
                  refine JL_normQ ⟨132, [(81, _), (82, _), (83, _), (84, _), (85, _), (86, _), (87, _), (88, _), (89, _), (90, _), (91, _), (92, _)], _⟩ (_ :: _ :: _ :: _ :: _ :: _ :: _ :: _ :: _ :: _ :: _ :: _ :: _ :: _ :: _ :: _ :: _ :: _ :: _ :: _ :: _ :: _ :: _ :: _ :: _ :: ψ) rfl rfl ?_
                  refine JL_loadE ty3 rfl (Reads.own 2 rfl) (i64s_get (by rw [fillL_len]; omega)) ?_
                  rw [show (fillL (rmin V) (own0 V) V.length i).getD i 0 = V.getD i 0 from fillL_hi (Nat.le_refl _) (by omega)]
                  exact JL_nil (JE_stepV rfl ss0))), OblS_V (fun vals ex ψ => (by
                  refine JL_normQ ⟨132, [(81, _), (82, _), (83, _), (84, _), (85, _), (86, _), (87, _), (88, _), (89, _), (90, _), (91, _), (92, _)], _⟩ (_ :: _ :: _ :: _ :: _ :: _ :: _ :: _ :: _ :: _ :: _ :: _ :: _ :: _ :: _ :: _ :: _ :: _ :: _ :: _ :: _ :: _ :: _ :: _ :: _ :: ψ) rfl rfl ?_
                  refine JL_move rfl ?_
                  exact JL_nil (JE_stepV rfl ss0))), OblS_V (fun vals ex ψ => (by
                  refine JL_normQ ⟨132, [(81, _), (82, _), (83, _), (84, _), (85, _), (86, _), (87, _), (88, _), (89, _), (90, _), (91, _), (92, _)], _⟩ (_ :: _ :: _ :: _ :: _ :: _ :: _ :: _ :: _ :: _ :: _ :: _ :: _ :: _ :: _ :: _ :: _ :: _ :: _ :: _ :: _ :: _ :: _ :: _ :: _ :: ψ) rfl rfl ?_
                  refine JL_move rfl ?_
                  exact JL_nil (JE_stepV rfl ss0))), OblS_V (fun vals ex ψ => (by
                  refine JL_normQ ⟨132, [(81, _), (82, _), (83, _), (84, _), (85, _), (86, _), (87, _), (88, _), (89, _), (90, _), (91, _), (92, _)], _⟩ (_ :: _ :: _ :: _ :: _ :: _ :: _ :: _ :: _ :: _ :: _ :: _ :: _ :: _ :: _ :: _ :: _ :: _ :: _ :: _ :: _ :: _ :: _ :: _ :: _ :: ψ) rfl rfl ?_
                  refine JL_sub_to rfl rfl (IntWalk.i64_in _ (by omega)) ?_
                  rw [show ((i : Int) - 1 : Int) = ((i - 1 : Nat) : Int) from by omega]
                  exact JL_nil (JE_stepV rfl ss0))), OblS_V (fun vals ex ψ => (by
                  refine JL_normQ ⟨132, [(81, _), (82, _), (83, _), (84, _), (85, _), (86, _), (87, _), (88, _), (89, _), (90, _), (91, _), (92, _)], _⟩ (_ :: _ :: _ :: _ :: _ :: _ :: _ :: _ :: _ :: _ :: _ :: _ :: _ :: _ :: _ :: _ :: _ :: _ :: _ :: _ :: _ :: _ :: _ :: _ :: _ :: ψ) rfl rfl ?_
                  refine JL_idx (i - 1) sl22 rfl rfl rfl (by omega) (Reads.own 2 rfl) (by rw [i64s_length, fillL_len]; omega) ?_
                  exact JL_nil (JE_stepV rfl ss0))), OblS_V (fun vals ex ψ => (by
                  refine JL_normQ ⟨132, [(81, _), (82, _), (83, _), (84, _), (85, _), (86, _), (87, _), (88, _), (89, _), (90, _), (91, _), (92, _)], _⟩ (_ :: _ :: _ :: _ :: _ :: _ :: _ :: _ :: _ :: _ :: _ :: _ :: _ :: _ :: _ :: _ :: _ :: _ :: _ :: _ :: _ :: _ :: _ :: _ :: _ :: ψ) rfl rfl ?_
                  refine JL_loadE ty3 rfl (Reads.own 2 rfl) (i64s_get (by rw [fillL_len]; omega)) ?_
                  rw [show (fillL (rmin V) (own0 V) V.length i).getD (i - 1) 0 = rmin V (i - 1) from fillL_lo (by omega) (by omega)]
                  exact JL_nil (JE_stepV rfl ss0))), OblS_V (fun vals ex ψ => (by
                  refine JL_normQ ⟨132, [(81, _), (82, _), (83, _), (84, _), (85, _), (86, _), (87, _), (88, _), (89, _), (90, _), (91, _), (92, _)], _⟩ (_ :: _ :: _ :: _ :: _ :: _ :: _ :: _ :: _ :: _ :: _ :: _ :: _ :: _ :: _ :: _ :: _ :: _ :: _ :: _ :: _ :: _ :: _ :: _ :: _ :: ψ) rfl rfl ?_
                  refine JL_min rfl rfl ?_
                  exact JL_nil (JE_stepV rfl ss0))), trivial⟩ (by kernel_rfl) (fun vals bs => ?_)
              refine JL_normL [_, _] ⟨132, [(81, _), (82, _), (83, _), (84, _), (85, _), (86, _), (87, _), (88, _), (89, _), (90, _), (91, _), (92, _)], _⟩ [box _ _ [_, _, _], box _ _ [_, _, _], osl _ _ _ _ _ _] [_, _, _, _, _, _, _, _, _, _, _, _, _, _, _, _, _, _, _, _, _, _, _, _, _] rfl rfl rfl rfl ?_
              refine JL_idx i sl22 rfl rfl rfl (by omega) (Reads.own 2 rfl) (by rw [i64s_length, fillL_len]; omega) ?_
              refine JL_storeI 2 ty3 rfl rfl rfl (by rw [fillL_len]; omega) ?_
              refine JL_nil_up 132 [box _ _ [_, _, _], box _ _ [_, _, _], osl _ _ _ _ _ _] [_, _, _, _, _, _, _, _, _, _, _, _, _, _, _, _, _, _, _, _, _, _, _, _, _] rfl rfl (by simp only [nrmF]; rfl) rfl rfl ?_
              refine JE_block_normal ?_
              refine JE_then ?_
              refine JC_region ?_
              refine JL_move rfl ?_
              refine JL_add_to rfl rfl (IntWalk.i64_in _ (by omega)) ?_
              refine JL_assign rfl ?_
              refine JL_nil_up 132 [box _ _ [_, _, _], box _ _ [_, _, _], osl _ _ _ _ _ _] [_, _, _, _, _, _, _, _, _, _, _, _, _, _, _, _, _, _, _, _, _, _, _, _, _] rfl rfl (by simp only [nrmF]; rfl) rfl rfl ?_
              first | rw [rmL_step (i := i) V (by omega)] | rw [rmL_first (i := i) V (by omega)]
              refine JE_nextS (i + 1, qa + ofq (V.getD i 0 * W.getD i 0) 1, ad66, cp66, be66, ce66, qb + ofq (W.getD i 0) 1 * (l32.getD i dF).q, ad78, cp78, be78, ce78) (by kernel_rfl) ?_ ?_ (by kernel_rfl) ?_
              · exact ⟨by omega, by rw [hqa, ps, ofq_one, Rat.intCast_add], by rw [hqb, wfs, ofq_one, fes_fq hl32], hqa1, hqb1⟩
              · first | omega | (dsimp only; omega)
              · exact subset_app (subset_cons (by repeat (first | with_reducible exact mm0 | refine mmS ?_)) (subset_cons (by repeat (first | with_reducible exact mm0 | refine mmS ?_)) (subset_cons (by repeat (first | with_reducible exact mm0 | refine mmS ?_)) (subset_cons (by repeat (first | with_reducible exact mm0 | refine mmS ?_)) subset_nil)))) (ssS (ssS (ssS (ssS (ssS (ssS (ssS (ssS (ssS (ssS (ssS (ssS (ssS (ssS (ssS (ssS (ssS ss0)))))))))))))))))
            · refine JL_done_up 132 [box _ _ [_, _, _], box _ _ [_, _, _], osl _ _ _ _ _ _] [_, _, _, _, _, _, _, _, _, _, _, _, _, _, _, _, _, _, _, _, _, _, _, _, _] rfl rfl (by simp only [nrmF]; rfl) rfl rfl ?_
              refine JC_false rfl ?_
              refine JC_skip ?_
              refine JE_block_normal ?_
              refine JE_then ?_
              refine JC_region ?_
              refine JL_move rfl ?_
              refine JL_add_to rfl rfl (IntWalk.i64_in _ (by omega)) ?_
              refine JL_assign rfl ?_
              refine JL_nil_up 132 [box _ _ [_, _, _], box _ _ [_, _, _], osl _ _ _ _ _ _] [_, _, _, _, _, _, _, _, _, _, _, _, _, _, _, _, _, _, _, _, _, _, _, _, _] rfl rfl (by simp only [nrmF]; rfl) rfl rfl ?_
              first | rw [rmL_step (i := i) V (by omega)] | rw [rmL_first (i := i) V (by omega)]
              refine JE_nextS (i + 1, qa + ofq (V.getD i 0 * W.getD i 0) 1, ad66, cp66, be66, ce66, qb + ofq (W.getD i 0) 1 * (l32.getD i dF).q, ad78, cp78, be78, ce78) (by kernel_rfl) ?_ ?_ (by kernel_rfl) ?_
              · exact ⟨by omega, by rw [hqa, ps, ofq_one, Rat.intCast_add], by rw [hqb, wfs, ofq_one, fes_fq hl32], hqa1, hqb1⟩
              · first | omega | (dsimp only; omega)
              · exact subset_app (subset_cons (by repeat (first | with_reducible exact mm0 | refine mmS ?_)) (subset_cons (by repeat (first | with_reducible exact mm0 | refine mmS ?_)) (subset_cons (by repeat (first | with_reducible exact mm0 | refine mmS ?_)) (subset_cons (by repeat (first | with_reducible exact mm0 | refine mmS ?_)) subset_nil)))) (ssS (ssS (ssS (ssS (ssS (ssS (ssS (ssS (ssS (ssS (ssS (ssS (ssS (ssS (ssS (ssS (ssS ss0)))))))))))))))))
          · refine JL_done_up 132 [box _ _ [_, _, _], box _ _ [_, _, _], osl _ _ _ _ _ _] [_, _, _, _, _, _, _, _, _, _, _, _] rfl rfl (by simp only [nrmF]; rfl) rfl rfl ?_
            refine JC_false rfl ?_
            refine JC_exit ?_
            refine JE_then_exit ?_
            refine JE_nextS_exit ?_
            refine JE_block_exit ?_
            refine JE_then ?_
            refine JC_seq ?_
            have hie : i = V.length := by omega
            subst hie
            rw [show osl ad48 V.length cap48 3 1 (i64s (fillL (rmin V) (own0 V) V.length V.length)) = osl ad48 (rmL V).length cap48 3 1 (i64s (rmL V)) from by rw [rmL_len, show fillL (rmin V) (own0 V) V.length V.length = rmL V from fillL_full _ _ _]]
            rw [show Value.slice ad48 V.length cap48 = Value.slice ad48 (rmL V).length cap48 from by rw [rmL_len]]
            refine JC_region ?_
            refine JL_move rfl ?_
            refine JL_move rfl ?_
            refine JL_give 2 rfl ?_
            refine JL_norm _ [box _ _ [_, _, _], box _ _ [_, _, _]] [_, _, _, _, _, _, _, _, _, _, _, _, _] rfl rfl rfl ?_
            refine JL_callF' (Asks.cons (holds_of_mem (by repeat (first | with_reducible exact mm0 | refine mmS ?_))) (Asks.cons (holds_of_mem (by repeat (first | with_reducible exact mm0 | refine mmS ?_))) Asks.nil)) (ifit_con (V := rmL V)) rfl ca13 ⟨rfl, rfl, rfl⟩ ?_
            rintro _ _ ⟨ad97, c97, l97, rfl, hl97, rfl⟩
            rw [rm_chk hz]
            have hn97 := fes_flen (rm_chk hz) hl97
            rw [rmL_len] at hn97
            refine JL_move rfl ?_
            refine JL_extract rfl rfl ?_
            refine JL_extract rfl rfl ?_
            refine JL_assign rfl ?_
            refine JL_assign rfl ?_
            refine JL_done_up 132 [box _ _ [_, _, _], box _ _ [_, _, _]] [_, _, _, _, _, _, _, _, _, _, _, _, _, _, _] rfl rfl (by simp only [nrmF]; rfl) rfl rfl ?_
            refine JC_seq ?_
            refine JC_seq ?_
            refine JC_region ?_
            refine JL_move rfl ?_
            refine JL_neq rfl rfl ?_
            refine JL_split (fun h101 => ?_) (fun h101 => ?_)
            · exact absurd rfl h101
            · refine JL_move rfl ?_
              refine JL_guard_yes rfl rfl ?_
              refine JL_move rfl ?_
              refine JL_guard_yes rfl rfl ?_
              refine JL_len sl28 rfl ?_
              refine JL_guard_yes rfl rfl ?_
              refine JL_move rfl ?_
              refine JL_guard_yes rfl rfl ?_
              refine JL_len sl22 rfl ?_
              refine JL_guard_yes rfl rfl ?_
              refine JL_neq rfl rfl ?_
              refine JL_split (fun h107 => ?_) (fun h107 => ?_)
              · exact absurd hn97 (by omega)
              · refine JL_pick_f rfl rfl ?_
                refine JL_move rfl ?_
                refine JL_guard_yes rfl rfl ?_
                refine JL_loadA (vs := [_, _, _]) 0 ty36 rfl rfl ⟨rfl, rfl, rfl, trivial⟩ ?_
                refine JL_guard_yes rfl rfl ?_
                refine JL_loadA (vs := [_, _, _]) 1 ty36 rfl rfl ⟨rfl, rfl, rfl, trivial⟩ ?_
                refine JL_guard_yes rfl rfl ?_
                refine JL_callF' (Asks.cons (holds_of_mem (by repeat (first | with_reducible exact mm0 | refine mmS ?_))) (Asks.cons (holds_of_mem (by repeat (first | with_reducible exact mm0 | refine mmS ?_))) (Asks.cons (holds_of_mem (by repeat (first | with_reducible exact mm0 | refine mmS ?_))) (Asks.cons (holds_of_mem (by repeat (first | with_reducible exact mm0 | refine mmS ?_))) Asks.nil)))) (fcmpq_con (FIn.some (hsa.mono (by omega))) (FIn.some (hsb.mono (by omega)))) rfl ca14 ⟨rfl, rfl, rfl⟩ ?_
                rintro _ _ ⟨rfl, rfl⟩
                refine JL_guard_yes rfl rfl ?_
                refine JL_neq rfl rfl ?_
                refine JL_split (fun h113 => ?_) (fun h113 => ?_)
                · exact absurd (cmpQ_zero.2 (by rw [hqa, hqb, fit_sum hz])) h113
                · refine JL_pick_f rfl rfl ?_
                  refine JL_done_up 132 [box _ _ [_, _, _], box _ _ [_, _, _]] [_, _, _, _, _, _, _, _, _, _, _, _, _, _, _] rfl rfl (by simp only [nrmF]; rfl) rfl rfl ?_
                  refine JC_false rfl ?_
                  refine JC_skip ?_
                  refine JE_then ?_
                  refine JC_seq ?_
                  refine JC_seq ?_
                  refine JC_region ?_
                  refine JL_assign rfl ?_
                  refine JL_done_up 132 [box _ _ [_, _, _], box _ _ [_, _, _]] [_, _, _, _, _, _, _, _, _, _, _, _, _, _, _] rfl rfl (by simp only [nrmF]; rfl) rfl rfl ?_
                  refine JC_block ?_
                  refine JC_loopS ((Nat)) (fun (j : Nat) => j ≤ V.length) (fun (j : Nat) => V.length - j) (fun u (j : Nat) => [none, none, none, none, some (u 4), none, none, none, none, none, none, none, none, some (.int .i64 (j : Nat)), none, none, none, none, none, none, none, none, none, none, none, none, none, none, none, none, none, none, none, none, none, none, none, none, none, none, none, none, none, none, none, none, none, none, none, none, none, none, none, none, none, none, none, none, none, none, none, none, none, none, none, none, none, none, none, none, none, none, none, none, none, none, none, none, none, none, none, none, none, none, none, none, none, none, none, none, none, none, none, none, none, none, none, none, none, none, none, none, none, none, none, none, none, none, none, none, none, none, none, none, none, some (u 115), some (u 116), some (u 117), some (u 118), some (u 119), some (u 120), some (u 121), some (u 122), some (u 123), some (u 124), some (u 125), some (u 126), some (u 127), some (u 128), some (u 129), some (u 130), some (u 131)]) (fun (j : Nat) => [none, none]) (fun (j : Nat) => []) (0) (by kernel_rfl) ?_ (by kernel_rfl) ?_ ?_
                  · exact Nat.zero_le _
                  · exact subset_nil
                  intro u j hj
                  refine JC_norm ⟨132, [], [_, _, _, _, _, _, _, _, _, _, _, _, _, _, _, _, _, _, _, _, _, _, _, _, _, _, _, _, _, _, _, _, _, _, _, _, _, _, _, _, _, _, _, _, _, _, _, _, _, _, _, _, _, _, _, _, _, _, _, _, _, _, _, _, _, _, _, _, _, _, _, _, _, _, _, _, _, _, _, _, _, _, _, _, _, _, _, _, _, _, _, _, _, _, _, _, _, _, _, _, _, _, _, _, _, _, _, _, _, _, _, _, _, _, _, _, _, _, _, _, _, _, _, _, _, _, _, _, _, _, _, _]⟩ [box _ _ [_, _, _], box _ _ [_, _, _]] [_, _, _, _, _, _, _, _, _, _, _, _, _, _, _] rfl rfl rfl ?_
                  refine JC_seq ?_
                  refine JC_seq ?_
                  refine JC_region ?_
                  refine JL_move rfl ?_
                  refine JL_move rfl ?_
                  refine JL_len sl22 rfl ?_
                  refine JL_lss rfl rfl ?_
                  refine JL_split (fun h118 => ?_) (fun h118 => ?_)
                  · refine JL_done_up 132 [box _ _ [_, _, _], box _ _ [_, _, _]] [_, _, _, _, _, _, _, _, _, _, _, _, _, _, _] rfl rfl (by simp only [nrmF]; rfl) rfl rfl ?_
                    refine JC_true rfl ?_
                    refine JC_skip ?_
                    refine JE_then ?_
                    refine JC_seq ?_
                    refine JC_block ?_
                    refine JC_seq ?_
                    refine JC_fesGet (f := true) (l := l97) (l97.getD j dF) (by repeat (first | with_reducible exact mm0 | refine mmS ?_)) (getD_mem (by omega)) ?_
                    have hrm := rmin_in (V := V) (n := V.length) (fun i hi => by obtain ⟨a, b, _, _⟩ := hok i hi; exact ⟨a, b⟩) (k := j) (by omega)
                    have hqr : qs (ofq (rmin V j) 1) 3 := qs_int (by omega)
                    refine JC_drawT mixed 9 [spV 121 [] _, spV 122 [] _, spV 123 [0, 1] _, spV 124 [2] _, spV 125 [] _, spV 126 [] _, spV 127 [4, 5] _, spV 128 [6] _, spC 129 [7] _] ⟨OblS_V (fun vals ex ψ => (by
                        refine JL_normQ ⟨132, [(121, _), (122, _), (123, _), (124, _), (125, _), (126, _), (127, _), (128, _), (129, _)], _⟩ (_ :: _ :: _ :: _ :: _ :: _ :: _ :: _ :: _ :: _ :: _ :: _ :: _ :: _ :: _ :: _ :: _ :: ψ) rfl rfl ?_
                        refine JL_move rfl ?_
                        exact JL_nil (JE_stepV rfl ss0))), OblS_V (fun vals ex ψ => (by
                        refine JL_normQ ⟨132, [(121, _), (122, _), (123, _), (124, _), (125, _), (126, _), (127, _), (128, _), (129, _)], _⟩ (_ :: _ :: _ :: _ :: _ :: _ :: _ :: _ :: _ :: _ :: _ :: _ :: _ :: _ :: _ :: _ :: _ :: ψ) rfl rfl ?_
                        refine JL_move rfl ?_
                        exact JL_nil (JE_stepV rfl ss0))), OblS_V (fun vals ex ψ => (by
                        refine JL_normQ ⟨132, [(121, _), (122, _), (123, _), (124, _), (125, _), (126, _), (127, _), (128, _), (129, _)], _⟩ (_ :: _ :: _ :: _ :: _ :: _ :: _ :: _ :: _ :: _ :: _ :: _ :: _ :: _ :: _ :: _ :: _ :: ψ) rfl rfl ?_
                        refine JL_indexAddr j sl28 rfl rfl rfl (by omega) (by first | exact Reads.view (by repeat (first | with_reducible exact mm0 | refine mmS ?_))) (by rw [fcells_length]; omega) ?_
                        exact JL_nil (JE_stepV rfl ss0))), OblS_V (fun vals ex ψ => (by
                        refine JL_normQ ⟨132, [(121, _), (122, _), (123, _), (124, _), (125, _), (126, _), (127, _), (128, _), (129, _)], _⟩ (_ :: _ :: _ :: _ :: _ :: _ :: _ :: _ :: _ :: _ :: _ :: _ :: _ :: _ :: _ :: _ :: _ :: ψ) rfl rfl ?_
                        refine JL_loadEA (vs := [_, _, _]) ty36 (Nat.zero_lt_succ _) rfl (by first | exact Reads.view (by repeat (first | with_reducible exact mm0 | refine mmS ?_))) (fcells_getA (by omega)) ?_
                        exact JL_nil (JE_stepV rfl ss0))), OblS_V (fun vals ex ψ => (by
                        refine JL_normQ ⟨132, [(121, _), (122, _), (123, _), (124, _), (125, _), (126, _), (127, _), (128, _), (129, _)], _⟩ (_ :: _ :: _ :: _ :: _ :: _ :: _ :: _ :: _ :: _ :: _ :: _ :: _ :: _ :: _ :: _ :: _ :: ψ) rfl rfl ?_
                        refine JL_move rfl ?_
                        exact JL_nil (JE_stepV rfl ss0))), OblS_V (fun vals ex ψ => (by
                        refine JL_normQ ⟨132, [(121, _), (122, _), (123, _), (124, _), (125, _), (126, _), (127, _), (128, _), (129, _)], _⟩ (_ :: _ :: _ :: _ :: _ :: _ :: _ :: _ :: _ :: _ :: _ :: _ :: _ :: _ :: _ :: _ :: _ :: ψ) rfl rfl ?_
                        refine JL_move rfl ?_
                        exact JL_nil (JE_stepV rfl ss0))), OblS_V (fun vals ex ψ => (by
                        refine JL_normQ ⟨132, [(121, _), (122, _), (123, _), (124, _), (125, _), (126, _), (127, _), (128, _), (129, _)], _⟩ (_ :: _ :: _ :: _ :: _ :: _ :: _ :: _ :: _ :: _ :: _ :: _ :: _ :: _ :: _ :: _ :: _ :: ψ) rfl rfl ?_
                        refine JL_idx j sl22 rfl rfl rfl (by rw [rmL_len]; omega) (by first | exact Reads.view (by repeat (first | with_reducible exact mm0 | refine mmS ?_))) (by rw [i64s_length, rmL_len]; omega) ?_
                        exact JL_nil (JE_stepV rfl ss0))), OblS_V (fun vals ex ψ => (by
                        refine JL_normQ ⟨132, [(121, _), (122, _), (123, _), (124, _), (125, _), (126, _), (127, _), (128, _), (129, _)], _⟩ (_ :: _ :: _ :: _ :: _ :: _ :: _ :: _ :: _ :: _ :: _ :: _ :: _ :: _ :: _ :: _ :: _ :: ψ) rfl rfl ?_
                        refine JL_loadE ty3 rfl (by first | exact Reads.view (by repeat (first | with_reducible exact mm0 | refine mmS ?_))) (i64s_get (by rw [rmL_len]; omega)) ?_
                        rw [show (rmL V).getD j 0 = rmin V j from mr_get _ _ (by omega)]
                        exact JL_nil (JE_stepV rfl ss0))), OblS_C (fun vals ex ψ => (by
                        refine JL_normQ ⟨132, [(121, _), (122, _), (123, _), (124, _), (125, _), (126, _), (127, _), (128, _), (129, _)], _⟩ (_ :: _ :: _ :: _ :: _ :: _ :: _ :: _ :: _ :: _ :: _ :: _ :: _ :: _ :: _ :: _ :: _ :: ψ) rfl rfl ?_
                        refine JL_callF' Asks.nil (fofi_con (rmin V j) 1 (by omega) (by omega)) rfl ca19 ⟨rfl, rfl, rfl⟩ ?_
                        exact fun v φo hP => JL_nil (JE_stepC φo rfl hP (fun p hp => mapB_l hp) (fun p hp => mapB_r (ss0 p hp))))), trivial⟩ (by kernel_rfl) (fun vals bs => ?_)
                    refine JL_normL [_, _] ⟨132, [(121, _), (122, _), (123, _), (124, _), (125, _), (126, _), (127, _), (128, _), (129, _)], _⟩ [box _ _ [_, _, _], box _ _ [_, _, _]] [_, _, _, _, _, _, _, _, _, _, _, _, _, _, _, _, _, _] rfl rfl rfl rfl ?_
                    generalize vals (0 + 1 + 1 + 1 + 1 + 1 + 1 + 1 + 1) = x129
                    refine JL_usePost mm0 (fun φo hP => ?_)
                    obtain ⟨ad129, cp129, be129, ce129, rfl, rfl⟩ := hP
                    refine JL_norm _ [box _ _ [_, _, _], box _ _ [_, _, _]] [_, _, _, _, _, _, _, _, _, _, _, _, _, _, _, _, _, _, _, _] rfl rfl rfl ?_
                    refine JL_callF' (Asks.cons (holds_of_mem (by repeat (first | with_reducible exact mm0 | refine mmS ?_))) (Asks.cons (holds_of_mem (by repeat (first | with_reducible exact mm0 | refine mmS ?_))) (Asks.cons (holds_of_mem (by repeat (first | with_reducible exact mm0 | refine mmS ?_))) (Asks.cons (holds_of_mem (by repeat (first | with_reducible exact mm0 | refine mmS ?_))) Asks.nil)))) (fcmpq_con (FIn.some ((fes_fqs hl97 j).mono (by decide))) (FIn.some (hqr.mono (by decide)))) rfl ca14 ⟨rfl, rfl, rfl⟩ ?_
                    rintro _ _ ⟨rfl, rfl⟩
                    refine JL_neq rfl rfl ?_
                    refine JL_split (fun h131 => ?_) (fun h131 => ?_)
                    · exact absurd (cmpQ_zero.2 (by rw [fes_fq hl97, rm_fit hz (by omega)])) h131
                    · refine JL_done_up 132 [box _ _ [_, _, _], box _ _ [_, _, _]] [_, _, _, _, _, _, _, _, _, _, _, _, _, _, _, _, _, _, _, _] rfl rfl (by simp only [nrmF]; rfl) rfl rfl ?_
                      refine JC_false rfl ?_
                      refine JC_skip ?_
                      refine JE_block_normal ?_
                      refine JE_then ?_
                      refine JC_region ?_
                      refine JL_move rfl ?_
                      refine JL_add_to rfl rfl (IntWalk.i64_in _ (by omega)) ?_
                      refine JL_assign rfl ?_
                      refine JL_nil_up 132 [box _ _ [_, _, _], box _ _ [_, _, _]] [_, _, _, _, _, _, _, _, _, _, _, _, _, _, _, _, _, _, _, _] rfl rfl (by simp only [nrmF]; rfl) rfl rfl ?_
                      refine JE_nextS (j + 1) (by kernel_rfl) ?_ ?_ (by kernel_rfl) ?_
                      · exact (by omega : j + 1 ≤ V.length)
                      · first | omega | (dsimp only; omega)
                      · exact subset_app subset_nil (ssS (ssS (ssS (ssS (ssS ss0)))))
                  · refine JL_done_up 132 [box _ _ [_, _, _], box _ _ [_, _, _]] [_, _, _, _, _, _, _, _, _, _, _, _, _, _, _] rfl rfl (by simp only [nrmF]; rfl) rfl rfl ?_
                    refine JC_false rfl ?_
                    refine JC_exit ?_
                    refine JE_then_exit ?_
                    refine JE_nextS_exit ?_
                    refine JE_block_exit ?_
                    refine JE_then ?_
                    refine JC_seq ?_
                    refine JC_region ?_
                    refine JL_assign rfl ?_
                    refine JL_done_up 132 [box _ _ [_, _, _], box _ _ [_, _, _]] [_, _, _, _, _, _, _, _, _, _, _, _, _, _, _] rfl rfl (by simp only [nrmF]; rfl) rfl rfl ?_
                    refine JC_ret ?_
                    refine JE_ret (vs := [_]) [] Tryd.results6 ⟨rfl, rfl⟩ ?_ ?_
                    · exact ⟨rfl, rfl⟩
                    · exact all_nil
  · refine JL_guard_yes rfl rfl ?_
    refine JL_not rfl ?_
    rw [Bool.not_false]
    refine JL_pick_f rfl rfl ?_
    refine JL_move rfl ?_
    refine JL_guard_no rfl rfl ?_
    refine JL_guard_no rfl rfl ?_
    refine JL_guard_no rfl rfl ?_
    refine JL_guard_no rfl rfl ?_
    refine JL_pick_t rfl rfl ?_
    refine JL_done_up 132 [] [_, _] rfl rfl (by simp only [nrmF]; rfl) rfl rfl ?_
    refine JC_true rfl ?_
    refine JC_seq ?_
    refine JC_region ?_
    refine JL_callF' Asks.nil (iawake_con) rfl ca9 rfl ?_
    rintro _ _ ⟨rfl, rfl⟩
    refine JL_assign rfl ?_
    refine JL_done_up 132 [] [_, _] rfl rfl (by simp only [nrmF]; rfl) rfl rfl ?_
    refine JC_ret ?_
    refine JE_then_ret ?_
    refine JE_ret (vs := [_]) [] Tryd.results6 ⟨rfl, rfl⟩ ?_ ?_
    · exact ⟨rfl, rfl⟩
    · exact all_nil

end Go.Fw.K
