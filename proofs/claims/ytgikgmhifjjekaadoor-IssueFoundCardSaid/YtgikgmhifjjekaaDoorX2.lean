/- Walks through functions of the given program: each meets its contract. (Printed by a program of this repo.) -/
import Derived.Test.YtgikgmhifjjekaaDoorX1
import Derived.Test.YtgikgmhifjjekaaDoorL1
import Derived.Test.YtgikgmhifjjekaaDoorI2
import Derived.Test.YtgikgmhifjjekaaDoorProg
namespace Go.Fw.X2
open Go Go.RowKit Go.Proofs Go.Nat9 Go.Fw
attribute [local irreducible] JC JL JE
theorem ca12 : callable Tryd.prog 12 = true := by kernel_rfl
theorem ca14 : callable Tryd.prog 14 = true := by kernel_rfl
theorem ca25 : callable Tryd.prog 25 = true := by kernel_rfl
theorem ca26 : callable Tryd.prog 26 = true := by kernel_rfl
theorem fo28_0 : fOf Tryd.prog 28 0 = some 0 := by kernel_rfl
theorem fo28_1 : fOf Tryd.prog 28 1 = some 3 := by kernel_rfl
theorem ty26 : tyOf Tryd.prog 26 = some (true, 3) := by kernel_rfl
theorem ty28 : tyOf Tryd.prog 28 = some (true, 6) := by kernel_rfl
theorem z28 : zeroOf Tryd.prog 28 = some [.bool false, .slice none 0 0, .slice none 0 0, .bool false, .slice none 0 0, .slice none 0 0] := by kernel_rfl
end Go.Fw.X2
namespace Go.Fw.K
open Go Go.RowKit Go.Proofs Go.Nat9 Go.Fw Go.Fw.X2
attribute [local irreducible] JC JL JE

theorem lawake_con  :
    ConF Tryd.prog 8 [] []
      (fun v φo => v = .bool true ∧ φo = []) := by
  refine ConF_of Tryd.func8 rfl 47 _ rfl rfl ?_
  intro w0
  refine JC_norm ⟨47, [], [_, _, _, _, _, _, _, _, _, _, _, _, _, _, _, _, _, _, _, _, _, _, _, _, _, _, _, _, _, _, _, _, _, _, _, _, _, _, _, _, _, _, _, _, _, _, _]⟩ [] [] rfl rfl rfl ?_
  refine JC_seq ?_
  refine JC_region ?_
  refine JL_assign rfl ?_
  refine JL_done_up 47 [] [] rfl rfl (by simp only [upd_pend, upd_base, flatP, updV_zero, updV_succ]; rfl) rfl rfl ?_
  refine JC_seq ?_
  refine JC_region ?_
  refine JL_callF' Asks.nil (lspan_con 2 3 (by omega) (by omega)) rfl ca25 ⟨rfl, rfl, rfl⟩ ?_
  rintro _ _ ⟨ad6, cp6, be6, ce6, af6, cq6, bg6, cf6, rfl, rfl⟩
  refine JL_callF' Asks.nil (lspan_con 10 20 (by omega) (by omega)) rfl ca25 ⟨rfl, rfl, rfl⟩ ?_
  rintro _ _ ⟨ad7, cp7, be7, ce7, af7, cq7, bg7, cf7, rfl, rfl⟩
  refine JL_callF' (Asks.cons (holds_of_mem (by repeat (first | with_reducible exact mm0 | refine mmS ?_))) (Asks.cons (holds_of_mem (by repeat (first | with_reducible exact mm0 | refine mmS ?_))) (Asks.cons (holds_of_mem (by repeat (first | with_reducible exact mm0 | refine mmS ?_))) (Asks.cons (holds_of_mem (by repeat (first | with_reducible exact mm0 | refine mmS ?_))) (Asks.cons (holds_of_mem (by repeat (first | with_reducible exact mm0 | refine mmS ?_))) (Asks.cons (holds_of_mem (by repeat (first | with_reducible exact mm0 | refine mmS ?_))) (Asks.cons (holds_of_mem (by repeat (first | with_reducible exact mm0 | refine mmS ?_))) (Asks.cons (holds_of_mem (by repeat (first | with_reducible exact mm0 | refine mmS ?_))) Asks.nil)))))))) (itimes_con (FIn.some (q := (ofq 2 1)) (qs.mono (qs_ofq _ _ (by decide) (by decide)) (by decide))) (FIn.some (q := (ofq 3 1)) (qs.mono (qs_ofq _ _ (by decide) (by decide)) (by decide))) (FIn.some (q := (ofq 10 1)) (qs.mono (qs_ofq _ _ (by decide) (by decide)) (by decide))) (FIn.some (q := (ofq 20 1)) (qs.mono (qs_ofq _ _ (by decide) (by decide)) (by decide)))) rfl ca12 ⟨rfl, rfl, rfl⟩ ?_
  rintro _ _ ⟨ad8, cp8, be8, ce8, af8, cq8, bg8, cf8, rfl, rfl⟩
  refine JL_move rfl ?_
  refine JL_extract rfl rfl ?_
  refine JL_extract rfl rfl ?_
  refine JL_alloc z28 (fun b1 => ?_)
  refine JL_store (vs := [_, _, _, _, _, _]) 0 ty28 rfl rfl rfl (AllOne.cons rfl (AllOne.cons rfl (AllOne.cons rfl (AllOne.cons rfl (AllOne.cons rfl (AllOne.cons rfl AllOne.nil)))))) rfl (Nat.le_of_ble_eq_true rfl) ?_
  refine JL_assign rfl ?_
  refine JL_done_up 47 [box _ _ [_, _, _, _, _, _]] [_, _, _, _, _, _, _, _, _, _, _, _] rfl rfl (by simp only [upd_pend, upd_base, flatP, updV_zero, updV_succ]; rfl) rfl rfl ?_
  refine JC_seq ?_
  refine JC_region ?_
  refine JL_callF' Asks.nil (lspan_con 20 30 (by omega) (by omega)) rfl ca25 ⟨rfl, rfl, rfl⟩ ?_
  rintro _ _ ⟨ad12, cp12, be12, ce12, af12, cq12, bg12, cf12, rfl, rfl⟩
  refine JL_callF' Asks.nil (lspan_con 25 1000 (by omega) (by omega)) rfl ca25 ⟨rfl, rfl, rfl⟩ ?_
  rintro _ _ ⟨ad13, cp13, be13, ce13, af13, cq13, bg13, cf13, rfl, rfl⟩
  refine JL_callF' (Asks.cons (holds_of_mem (by repeat (first | with_reducible exact mm0 | refine mmS ?_))) (Asks.cons (holds_of_mem (by repeat (first | with_reducible exact mm0 | refine mmS ?_))) (Asks.cons (holds_of_mem (by repeat (first | with_reducible exact mm0 | refine mmS ?_))) (Asks.cons (holds_of_mem (by repeat (first | with_reducible exact mm0 | refine mmS ?_))) (Asks.cons (holds_of_mem (by repeat (first | with_reducible exact mm0 | refine mmS ?_))) (Asks.cons (holds_of_mem (by repeat (first | with_reducible exact mm0 | refine mmS ?_))) (Asks.cons (holds_of_mem (by repeat (first | with_reducible exact mm0 | refine mmS ?_))) (Asks.cons (holds_of_mem (by repeat (first | with_reducible exact mm0 | refine mmS ?_))) Asks.nil)))))))) (isurvival_con (FIn.some (q := (ofq 20 1)) (qs.mono (qs_ofq _ _ (by decide) (by decide)) (by decide))) (FIn.some (q := (ofq 30 1)) (qs.mono (qs_ofq _ _ (by decide) (by decide)) (by decide))) (FIn.some (q := (ofq 25 1)) (qs.mono (qs_ofq _ _ (by decide) (by decide)) (by decide))) (FIn.some (q := (ofq 1000 1)) (qs.mono (qs_ofq _ _ (by decide) (by decide)) (by decide)))) rfl ca14 ⟨rfl, rfl, rfl⟩ ?_
  rintro _ _ ⟨ad14, cp14, be14, ce14, af14, cq14, bg14, cf14, rfl, rfl⟩
  refine JL_move rfl ?_
  refine JL_extract rfl rfl ?_
  refine JL_extract rfl rfl ?_
  refine JL_alloc z28 (fun b3 => ?_)
  refine JL_store (vs := [_, _, _, _, _, _]) 1 ty28 rfl rfl rfl (AllOne.cons rfl (AllOne.cons rfl (AllOne.cons rfl (AllOne.cons rfl (AllOne.cons rfl (AllOne.cons rfl AllOne.nil)))))) rfl (Nat.le_of_ble_eq_true rfl) ?_
  refine JL_assign rfl ?_
  refine JL_done_up 47 [box _ _ [_, _, _, _, _, _], box _ _ [_, _, _, _, _, _]] [_, _, _, _, _, _, _, _, _, _, _, _, _, _, _, _, _, _, _, _, _, _, _, _] rfl rfl (by simp only [upd_pend, upd_base, flatP, updV_zero, updV_succ]; rfl) rfl rfl ?_
  refine JC_seq ?_
  refine JC_region ?_
  refine JL_move rfl ?_
  refine JL_eql rfl rfl ?_
  refine JL_split (fun h18 => ?_) (fun h18 => ?_)
  · refine JL_move rfl ?_
    refine JL_guard_yes rfl rfl ?_
    refine JL_fieldAddr fo28_0 rfl ?_
    refine JL_guard_yes rfl rfl ?_
    refine JL_loadA (vs := [_, _, _]) 0 ty26 rfl rfl ⟨rfl, rfl, rfl, trivial⟩ ?_
    refine JL_guard_yes rfl rfl ?_
    refine JL_callF' (Asks.cons (holds_of_mem (by repeat (first | with_reducible exact mm0 | refine mmS ?_))) (Asks.cons (holds_of_mem (by repeat (first | with_reducible exact mm0 | refine mmS ?_))) Asks.nil)) (ftext_con (FIn.of (o := onv (v2 (ofq 2 1) (ofq 3 1) (ofq 10 1) (ofq 20 1)) ((ofq 2 1) * (ofq 10 1))) ((qs_small (by decide +kernel) (by decide +kernel)).mono (by decide))) (by decide +kernel) (s := ⟨#[50, 48]⟩) (t := ⟨#[49]⟩) (by rw [show (fval (onv (v2 (ofq 2 1) (ofq 3 1) (ofq 10 1) (ofq 20 1)) ((ofq 2 1) * (ofq 10 1)))).num.natAbs = 20 from by decide +kernel]; exact txtAt20) (by rw [show (fval (onv (v2 (ofq 2 1) (ofq 3 1) (ofq 10 1) (ofq 20 1)) ((ofq 2 1) * (ofq 10 1)))).den = 1 from by decide +kernel]; exact txtAt1) true (by simp)) rfl ca26 ⟨rfl, rfl⟩ ?_
    rintro _ _ ⟨rfl, rfl⟩
    refine JL_guard_yes rfl rfl ?_
    refine JL_eqlS rfl rfl ?_
    refine JL_splitV (fun h23 => ?_) (fun h23 => ?_)
    · refine JL_pick_t rfl rfl ?_
      refine JL_move rfl ?_
      refine JL_guard_yes rfl rfl ?_
      refine JL_fieldAddr fo28_1 rfl ?_
      refine JL_guard_yes rfl rfl ?_
      refine JL_loadA (vs := [_, _, _]) 0 ty26 rfl rfl ⟨rfl, rfl, rfl, trivial⟩ ?_
      refine JL_guard_yes rfl rfl ?_
      refine JL_callF' (Asks.cons (holds_of_mem (by repeat (first | with_reducible exact mm0 | refine mmS ?_))) (Asks.cons (holds_of_mem (by repeat (first | with_reducible exact mm0 | refine mmS ?_))) Asks.nil)) (ftext_con (FIn.of (o := onv (v2 (ofq 2 1) (ofq 3 1) (ofq 10 1) (ofq 20 1)) ((ofq 3 1) * (ofq 20 1))) ((qs_small (by decide +kernel) (by decide +kernel)).mono (by decide))) (by decide +kernel) (s := ⟨#[54, 48]⟩) (t := ⟨#[49]⟩) (by rw [show (fval (onv (v2 (ofq 2 1) (ofq 3 1) (ofq 10 1) (ofq 20 1)) ((ofq 3 1) * (ofq 20 1)))).num.natAbs = 60 from by decide +kernel]; exact txtAt60) (by rw [show (fval (onv (v2 (ofq 2 1) (ofq 3 1) (ofq 10 1) (ofq 20 1)) ((ofq 3 1) * (ofq 20 1)))).den = 1 from by decide +kernel]; exact txtAt1) true (by simp)) rfl ca26 ⟨rfl, rfl⟩ ?_
      rintro _ _ ⟨rfl, rfl⟩
      refine JL_guard_yes rfl rfl ?_
      refine JL_eqlS rfl rfl ?_
      refine JL_splitV (fun h29 => ?_) (fun h29 => ?_)
      · refine JL_pick_t rfl rfl ?_
        refine JL_move rfl ?_
        refine JL_guard_yes rfl rfl ?_
        refine JL_move rfl ?_
        refine JL_guard_yes rfl rfl ?_
        refine JL_eql rfl rfl ?_
        refine JL_split (fun h33 => ?_) (fun h33 => ?_)
        · refine JL_pick_t rfl rfl ?_
          refine JL_move rfl ?_
          refine JL_guard_yes rfl rfl ?_
          refine JL_fieldAddr fo28_0 rfl ?_
          refine JL_guard_yes rfl rfl ?_
          refine JL_loadA (vs := [_, _, _]) 1 ty26 rfl rfl ⟨rfl, rfl, rfl, trivial⟩ ?_
          refine JL_guard_yes rfl rfl ?_
          refine JL_callF' (Asks.cons (holds_of_mem (by repeat (first | with_reducible exact mm0 | refine mmS ?_))) (Asks.cons (holds_of_mem (by repeat (first | with_reducible exact mm0 | refine mmS ?_))) Asks.nil)) (ftext_con (FIn.of (o := onv (svV (ofq 20 1) (ofq 30 1) (ofq 25 1) (ofq 1000 1)) (fval (dvq (ofq 20 1) (ofq 1000 1)))) ((qs_small (by decide +kernel) (by decide +kernel)).mono (by decide))) (by decide +kernel) (s := ⟨#[49]⟩) (t := ⟨#[53, 48]⟩) (by rw [show (fval (onv (svV (ofq 20 1) (ofq 30 1) (ofq 25 1) (ofq 1000 1)) (fval (dvq (ofq 20 1) (ofq 1000 1))))).num.natAbs = 1 from by decide +kernel]; exact txtAt1) (by rw [show (fval (onv (svV (ofq 20 1) (ofq 30 1) (ofq 25 1) (ofq 1000 1)) (fval (dvq (ofq 20 1) (ofq 1000 1))))).den = 50 from by decide +kernel]; exact txtAt50) false (by decide +kernel)) rfl ca26 ⟨rfl, rfl⟩ ?_
          rintro _ _ ⟨rfl, rfl⟩
          refine JL_guard_yes rfl rfl ?_
          refine JL_eqlS rfl rfl ?_
          refine JL_splitV (fun h39 => ?_) (fun h39 => ?_)
          · refine JL_pick_t rfl rfl ?_
            refine JL_move rfl ?_
            refine JL_guard_yes rfl rfl ?_
            refine JL_fieldAddr fo28_1 rfl ?_
            refine JL_guard_yes rfl rfl ?_
            refine JL_loadA (vs := [_, _, _]) 1 ty26 rfl rfl ⟨rfl, rfl, rfl, trivial⟩ ?_
            refine JL_guard_yes rfl rfl ?_
            refine JL_callF' (Asks.cons (holds_of_mem (by repeat (first | with_reducible exact mm0 | refine mmS ?_))) (Asks.cons (holds_of_mem (by repeat (first | with_reducible exact mm0 | refine mmS ?_))) Asks.nil)) (ftext_con (FIn.of (o := onv (svV (ofq 20 1) (ofq 30 1) (ofq 25 1) (ofq 1000 1)) (svH (ofq 30 1) (ofq 25 1))) ((qs_small (by decide +kernel) (by decide +kernel)).mono (by decide))) (by decide +kernel) (s := ⟨#[49]⟩) (t := ⟨#[49]⟩) (by rw [show (fval (onv (svV (ofq 20 1) (ofq 30 1) (ofq 25 1) (ofq 1000 1)) (svH (ofq 30 1) (ofq 25 1)))).num.natAbs = 1 from by decide +kernel]; exact txtAt1) (by rw [show (fval (onv (svV (ofq 20 1) (ofq 30 1) (ofq 25 1) (ofq 1000 1)) (svH (ofq 30 1) (ofq 25 1)))).den = 1 from by decide +kernel]; exact txtAt1) true (by simp)) rfl ca26 ⟨rfl, rfl⟩ ?_
            rintro _ _ ⟨rfl, rfl⟩
            refine JL_guard_yes rfl rfl ?_
            refine JL_eqlS rfl rfl ?_
            refine JL_splitV (fun h45 => ?_) (fun h45 => ?_)
            · refine JL_pick_t rfl rfl ?_
              refine JL_assign rfl ?_
              refine JL_done_up 47 [box _ _ [_, _, _, _, _, _], box _ _ [_, _, _, _, _, _]] [_, _, _, _, _, _, _, _, _, _, _, _, _, _, _, _, _, _, _, _, _, _, _, _] rfl rfl (by simp only [upd_pend, upd_base, flatP, updV_zero, updV_succ]; rfl) rfl rfl ?_
              refine JC_ret ?_
              refine JE_ret (vs := [_]) [] Tryd.results8 ⟨rfl, rfl⟩ ?_ ?_
              · exact ⟨rfl, rfl⟩
              · exact all_nil
            · simp at h45
          · rw [show (bif false then (⟨#[49]⟩ : ByteArray) else ⟨#[49]⟩ ++ (⟨#[47]⟩ ++ ⟨#[53, 48]⟩)) = ⟨#[49, 47, 53, 48]⟩ from rfl] at h39; simp at h39
        · exact absurd (show svE (ofq 20 1) (ofq 30 1) (ofq 25 1) (ofq 1000 1) = 0 from by decide +kernel) h33
      · simp at h29
    · simp at h23
  · exact absurd (show er1 (v2 (ofq 2 1) (ofq 3 1) (ofq 10 1) (ofq 20 1)) = 0 from by decide +kernel) h18

end Go.Fw.K
