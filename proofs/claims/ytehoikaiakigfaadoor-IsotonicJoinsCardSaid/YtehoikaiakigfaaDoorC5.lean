/- Walks through functions of the given program: each meets its contract. (Printed by a program of this repo.) -/
import Derived.Test.YtehoikaiakigfaaDoorC3
import Derived.Test.YtehoikaiakigfaaDoorX1
import Derived.Test.YtehoikaiakigfaaDoorIsoT
import Derived.Test.YtehoikaiakigfaaDoorProg
namespace Go.Fw.C5
open Go Go.RowKit Go.Proofs Go.Nat9 Go.Fw
attribute [local irreducible] JC JL JE
theorem ca10 : callable Tryd.prog 10 = true := by kernel_rfl
theorem ca11 : callable Tryd.prog 11 = true := by kernel_rfl
theorem ca12 : callable Tryd.prog 12 = true := by kernel_rfl
theorem ca13 : callable Tryd.prog 13 = true := by kernel_rfl
theorem ca8 : callable Tryd.prog 8 = true := by kernel_rfl
theorem sl22 : slOf Tryd.prog 22 = some (3, 1, 8, [.int .i64 0]) := by kernel_rfl
theorem sl28 : slOf Tryd.prog 28 = some (36, 3, 56, [.bool false, .slice none 0 0, .slice none 0 0]) := by kernel_rfl
theorem ty36 : tyOf Tryd.prog 36 = some (true, 3) := by kernel_rfl
end Go.Fw.C5
namespace Go.Fw.K
open Go Go.RowKit Go.Proofs Go.Nat9 Go.Fw Go.Fw.C5
attribute [local irreducible] JC JL JE

theorem iawake_con  :
    ConF Tryd.prog 4 [] []
      (fun v φo => v = .bool true ∧ φo = []) := by
  refine ConF_of Tryd.func4 rfl 40 _ rfl rfl ?_
  intro w0
  refine JC_norm ⟨40, [], [_, _, _, _, _, _, _, _, _, _, _, _, _, _, _, _, _, _, _, _, _, _, _, _, _, _, _, _, _, _, _, _, _, _, _, _, _, _, _, _]⟩ [] [] rfl rfl rfl ?_
  refine JC_seq ?_
  refine JC_region ?_
  refine JL_assign rfl ?_
  refine JL_done_up 40 [] [] rfl rfl (by simp only [nrmF]; rfl) rfl rfl ?_
  refine JC_seq ?_
  refine JC_region ?_
  refine JL_buildN (cs0 := [.int .i64 0, .int .i64 0, .int .i64 0, .int .i64 0]) (cs := [_, _, _, _]) [(0, [_]), (1, [_]), (2, [_]), (3, [_])] sl22 (by kernel_rfl) ⟨⟨rfl, _, rfl, rfl⟩, ⟨rfl, _, rfl, rfl⟩, ⟨rfl, _, rfl, rfl⟩, ⟨rfl, _, rfl, rfl⟩, rfl⟩ rfl rfl rfl rfl (fun g6 => ?_)
  refine JL_norm _ [osl _ _ _ _ _ (i64s ([5, 3, 4, 1]))] [] rfl rfl rfl ?_
  refine JL_callF' Asks.nil (ones_con (n := 4) (by decide) (by decide)) rfl ca10 ⟨rfl, rfl⟩ ?_
  rintro _ _ ⟨ad7, c7, rfl, rfl⟩
  refine JL_give 0 rfl ?_
  refine JL_norm _ [] [_, _] rfl rfl rfl ?_
  refine JL_callF' (Asks.cons (holds_of_mem (by repeat (first | with_reducible exact mm0 | refine mmS ?_))) (Asks.cons (holds_of_mem (by repeat (first | with_reducible exact mm0 | refine mmS ?_))) Asks.nil)) (ifit_con (V := [5, 3, 4, 1]) (W := List.replicate (Int.toNat 4) (1 : Int))) rfl ca8 ⟨rfl, rfl, rfl⟩ ?_
  rintro _ _ ⟨ad8, c8, l8, rfl, hl8, rfl⟩
  have hl4 : l8.length = 4 := by have := congrArg List.length hl8; rw [List.length_map] at this; rw [this]; decide +kernel
  have hq2 : (l8.getD 2 dF).q = ofq 7 2 := by rw [← map_getD, hl8]; decide +kernel
  refine JL_move rfl ?_
  refine JL_extract rfl rfl ?_
  refine JL_extract rfl rfl ?_
  refine JL_assign rfl ?_
  refine JL_assign rfl ?_
  refine JL_done_up 40 [] [_, _, _, _] rfl rfl (by simp only [nrmF]; rfl) rfl rfl ?_
  refine JC_seq ?_
  refine JC_region ?_
  refine JL_buildN (cs0 := [.int .i64 0, .int .i64 0, .int .i64 0, .int .i64 0]) (cs := [_, _, _, _]) [(0, [_]), (1, [_]), (2, [_]), (3, [_])] sl22 (by kernel_rfl) ⟨⟨rfl, _, rfl, rfl⟩, ⟨rfl, _, rfl, rfl⟩, ⟨rfl, _, rfl, rfl⟩, ⟨rfl, _, rfl, rfl⟩, rfl⟩ rfl rfl rfl rfl (fun g12 => ?_)
  refine JL_norm _ [osl _ _ _ _ _ (i64s ([5, 3, 4, 1]))] [_, _, _, _] rfl rfl rfl ?_
  refine JL_callF' Asks.nil (ones_con (n := 4) (by decide) (by decide)) rfl ca10 ⟨rfl, rfl⟩ ?_
  rintro _ _ ⟨ad13, c13, rfl, rfl⟩
  refine JL_give 0 rfl ?_
  refine JL_norm _ [] [_, _, _, _, _, _] rfl rfl rfl ?_
  refine JL_callF' (Asks.cons (holds_of_mem (by repeat (first | with_reducible exact mm0 | refine mmS ?_))) (Asks.cons (holds_of_mem (by repeat (first | with_reducible exact mm0 | refine mmS ?_))) Asks.nil)) (ibls_con (V := [5, 3, 4, 1]) (W := List.replicate (Int.toNat 4) (1 : Int))) rfl ca11 ⟨rfl, rfl, rfl⟩ ?_
  rintro _ _ ⟨ad14, c14, rfl, rfl⟩
  rw [show begL [5, 3, 4, 1] (List.replicate (Int.toNat 4) (1 : Int)) = [0, 1, 3] from by decide +kernel]
  refine JL_move rfl ?_
  refine JL_extract rfl rfl ?_
  refine JL_extract rfl rfl ?_
  refine JL_assign rfl ?_
  refine JL_assign rfl ?_
  refine JL_done_up 40 [] [_, _, _, _, _, _, _] rfl rfl (by simp only [nrmF]; rfl) rfl rfl ?_
  refine JC_seq ?_
  refine JC_region ?_
  refine JL_move rfl ?_
  refine JL_eql rfl rfl ?_
  refine JL_split (fun h18 => ?_) (fun h18 => ?_)
  · refine JL_move rfl ?_
    refine JL_guard_yes rfl rfl ?_
    refine JL_move rfl ?_
    refine JL_guard_yes rfl rfl ?_
    refine JL_len sl28 rfl ?_
    refine JL_guard_yes rfl rfl ?_
    refine JL_eql rfl rfl ?_
    refine JL_split (fun h22 => ?_) (fun h22 => ?_)
    · refine JL_pick_t rfl rfl ?_
      refine JL_move rfl ?_
      refine JL_guard_yes rfl rfl ?_
      refine JL_move rfl ?_
      refine JL_guard_yes rfl rfl ?_
      refine JL_indexAddr 2 sl28 rfl rfl rfl (by omega) (by first | exact Reads.view (by repeat (first | with_reducible exact mm0 | refine mmS ?_))) (by rw [fcells_length]; omega) ?_
      refine JL_guard_yes rfl rfl ?_
      refine JL_loadEA (vs := [_, _, _]) ty36 (Nat.zero_lt_succ _) rfl (by first | exact Reads.view (by repeat (first | with_reducible exact mm0 | refine mmS ?_))) (fcells_getA (by omega)) ?_
      refine JL_fesGet (f := true) (l8.getD 2 dF) (by repeat (first | with_reducible exact mm0 | refine mmS ?_)) (getD_mem (by omega)) ?_
      generalize l8.getD 2 dF = x2 at hq2 ⊢
      obtain ⟨xa, xc, xb, xe, xq⟩ := x2
      obtain rfl : xq = ofq 7 2 := hq2
      refine JL_guard_yes rfl rfl ?_
      refine JL_callF' (Asks.cons (holds_of_mem (by repeat (first | with_reducible exact mm0 | refine mmS ?_))) (Asks.cons (holds_of_mem (by repeat (first | with_reducible exact mm0 | refine mmS ?_))) Asks.nil)) (ftext_con (FIn.of (o := some (ofq 7 2)) ((qs_small (by decide +kernel) (by decide +kernel)).mono (by decide))) (by decide +kernel) (s := ⟨#[55]⟩) (t := ⟨#[50]⟩) (by rw [show (fval (some (ofq 7 2))).num.natAbs = 7 from by decide +kernel]; exact txtAt7) (by rw [show (fval (some (ofq 7 2))).den = 2 from by decide +kernel]; exact txtAt2) false (by decide +kernel)) rfl ca12 ⟨rfl, rfl⟩ ?_
      rintro _ _ ⟨rfl, rfl⟩
      refine JL_guard_yes rfl rfl ?_
      refine JL_eqlS rfl rfl ?_
      refine JL_splitV (fun h29 => ?_) (fun h29 => ?_)
      · refine JL_pick_t rfl rfl ?_
        refine JL_move rfl ?_
        refine JL_guard_yes rfl rfl ?_
        refine JL_move rfl ?_
        refine JL_guard_yes rfl rfl ?_
        refine JL_eql rfl rfl ?_
        refine JL_split (fun h33 => ?_) (fun h33 => ?_)
        · refine JL_pick_t rfl rfl ?_
          refine JL_move rfl ?_
          refine JL_guard_yes rfl rfl ?_
          refine JL_move rfl ?_
          refine JL_guard_yes rfl rfl ?_
          refine JL_buildN (cs0 := [.int .i64 0, .int .i64 0, .int .i64 0]) (cs := [_, _, _]) [(0, [_]), (1, [_]), (2, [_])] sl22 (by kernel_rfl) ⟨⟨rfl, _, rfl, rfl⟩, ⟨rfl, _, rfl, rfl⟩, ⟨rfl, _, rfl, rfl⟩, rfl⟩ rfl rfl rfl rfl (fun g37 => ?_)
          refine JL_norm _ [osl _ _ _ _ _ (i64s ([0, 1, 3]))] [_, _, _, _, _, _, _, _, _] rfl rfl rfl ?_
          refine JL_guard_yes rfl rfl ?_
          refine JL_give 0 rfl ?_
          refine JL_norm _ [] [_, _, _, _, _, _, _, _, _, _] rfl rfl rfl ?_
          refine JL_callF' (Asks.cons (holds_of_mem (by repeat (first | with_reducible exact mm0 | refine mmS ?_))) (Asks.cons (holds_of_mem (by repeat (first | with_reducible exact mm0 | refine mmS ?_))) Asks.nil)) (bints_con (L := [0, 1, 3]) (by decide)) rfl ca13 ⟨rfl, rfl, rfl⟩ ?_
          rintro _ _ ⟨rfl, rfl⟩
          refine JL_pick_t rfl rfl ?_
          refine JL_assign rfl ?_
          refine JL_done_up 40 [] [_, _, _, _, _, _, _, _, _, _] rfl rfl (by simp only [nrmF]; rfl) rfl rfl ?_
          refine JC_ret ?_
          refine JE_ret (vs := [_]) [] Tryd.results4 ⟨rfl, rfl⟩ ?_ ?_
          · exact ⟨rfl, rfl⟩
          · exact all_nil
        · exact absurd (show chk [5, 3, 4, 1] (List.replicate (Int.toNat 4) (1 : Int)) = 0 from by decide +kernel) h33
      · rw [show (bif false then (⟨#[55]⟩ : ByteArray) else ⟨#[55]⟩ ++ (⟨#[47]⟩ ++ ⟨#[50]⟩)) = ⟨#[55, 47, 50]⟩ from rfl] at h29; simp at h29
    · exact absurd h22 (by omega)
  · exact absurd (show chk [5, 3, 4, 1] (List.replicate (Int.toNat 4) (1 : Int)) = 0 from by decide +kernel) h18

end Go.Fw.K
