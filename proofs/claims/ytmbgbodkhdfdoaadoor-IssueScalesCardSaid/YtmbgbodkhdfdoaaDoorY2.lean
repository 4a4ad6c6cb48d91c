/- Walks through functions of the given program: each meets its contract. (Printed by a program of this repo.) -/
import Derived.Test.YtmbgbodkhdfdoaaDoorX2
import Derived.Test.YtmbgbodkhdfdoaaDoorI3
import Derived.Test.YtmbgbodkhdfdoaaDoorJ2
import Derived.Test.YtmbgbodkhdfdoaaDoorB1
import Derived.Test.YtmbgbodkhdfdoaaDoorFrD
import Derived.Test.YtmbgbodkhdfdoaaDoorProg
namespace Go.Fw.Y2
open Go Go.RowKit Go.Proofs Go.Nat9 Go.Fw
attribute [local irreducible] JC JL JE
theorem ca17 : callable Tryd.prog 17 = true := by kernel_rfl
theorem ca22 : callable Tryd.prog 22 = true := by kernel_rfl
theorem ca23 : callable Tryd.prog 23 = true := by kernel_rfl
theorem ca24 : callable Tryd.prog 24 = true := by kernel_rfl
theorem ca25 : callable Tryd.prog 25 = true := by kernel_rfl
theorem ca8 : callable Tryd.prog 8 = true := by kernel_rfl
theorem ca9 : callable Tryd.prog 9 = true := by kernel_rfl
theorem sl59 : slOf Tryd.prog 59 = some (28, 6, 112, [.bool false, .slice none 0 0, .slice none 0 0, .bool false, .slice none 0 0, .slice none 0 0]) := by kernel_rfl
theorem st28 : stOf Tryd.prog 28 = some ([(0, 3), (3, 3)], [.bool false, .slice none 0 0, .slice none 0 0, .bool false, .slice none 0 0, .slice none 0 0]) := by kernel_rfl
theorem ty26 : tyOf Tryd.prog 26 = some (true, 3) := by kernel_rfl
theorem ty28 : tyOf Tryd.prog 28 = some (true, 6) := by kernel_rfl
theorem ub4 : Tryd.prog.underlying 4 = some .bool := by kernel_rfl
theorem z28 : zeroOf Tryd.prog 28 = some [.bool false, .slice none 0 0, .slice none 0 0, .bool false, .slice none 0 0, .slice none 0 0] := by kernel_rfl
end Go.Fw.Y2
namespace Go.Fw.K
open Go Go.RowKit Go.Proofs Go.Nat9 Go.Fw Go.Fw.Y2
attribute [local irreducible] JC JL JE

set_option maxHeartbeats 4000000 in
theorem issueScales_con {s1 : Bool} {ad1 : Option Addr} {n1 c1 : Nat} {L1 : List Nat} {be1 : Option Addr} {m1 e1 : Nat} {M1 : List Nat} (r1 : RIn n1 L1 m1 M1) {s2 : Bool} {ad2 : Option Addr} {n2 c2 : Nat} {L2 : List Nat} {be2 : Option Addr} {m2 e2 : Nat} {M2 : List Nat} (r2 : RIn n2 L2 m2 M2) {s3 : Bool} {ad3 : Option Addr} {n3 c3 : Nat} {L3 : List Nat} {be3 : Option Addr} {m3 e3 : Nat} {M3 : List Nat} (r3 : RIn n3 L3 m3 M3) {s4 : Bool} {ad4 : Option Addr} {n4 c4 : Nat} {L4 : List Nat} {be4 : Option Addr} {m4 e4 : Nat} {M4 : List Nat} (r4 : RIn n4 L4 m4 M4) {s5 : Bool} {ad5 : Option Addr} {n5 c5 : Nat} {L5 : List Nat} {be5 : Option Addr} {m5 e5 : Nat} {M5 : List Nat} (r5 : RIn n5 L5 m5 M5) :
    ConF Tryd.prog 5 [.agg #[.bool s1, .slice ad1 n1 c1, .slice be1 m1 e1, .bool s2, .slice ad2 n2 c2, .slice be2 m2 e2], .agg #[.bool s3, .slice ad3 n3 c3, .slice be3 m3 e3, .bool s4, .slice ad4 n4 c4, .slice be4 m4 e4], .agg #[.bool s5, .slice ad5 n5 c5, .slice be5 m5 e5]] [vCells ad1 (u32s L1), vCells be1 (u32s M1), vCells ad2 (u32s L2), vCells be2 (u32s M2), vCells ad3 (u32s L3), vCells be3 (u32s M3), vCells ad4 (u32s L4), vCells be4 (u32s M4), vCells ad5 (u32s L5), vCells be5 (u32s M5)]
      (fun v φo => v = .bool true ∧ φo = []) := by
  refine ConF_of Tryd.func5 rfl 70 _ rfl rfl ?_
  intro w0
  refine JC_norm ⟨70, [], [_, _, _, _, _, _, _, _, _, _, _, _, _, _, _, _, _, _, _, _, _, _, _, _, _, _, _, _, _, _, _, _, _, _, _, _, _, _, _, _, _, _, _, _, _, _, _, _, _, _, _, _, _, _, _, _, _, _, _, _, _, _, _, _, _, _, _, _, _, _]⟩ [] [_, _, _, _, _, _, _, _, _, _] rfl rfl rfl ?_
  refine JC_seq ?_
  refine JC_region ?_
  refine JL_box rfl rfl (fun b3 => ?_)
  refine JL_box rfl rfl (fun b4 => ?_)
  refine JL_box rfl rfl (fun b5 => ?_)
  refine JL_assign rfl ?_
  refine JL_done_up 70 [box _ _ [_, _, _, _, _, _], box _ _ [_, _, _, _, _, _], box _ _ [_, _, _]] [_, _, _, _, _, _, _, _, _, _] rfl rfl (by simp only [upd_pend, upd_base, flatP, updV_zero, updV_succ]; rfl) rfl rfl ?_
  refine JC_seq ?_
  refine JC_seq ?_
  refine JC_region ?_
  refine JL_callF' Asks.nil (lawake_con) rfl ca8 rfl ?_
  rintro _ _ ⟨rfl, rfl⟩
  refine JL_not rfl ?_
  rw [Bool.not_true]
  refine JL_move rfl ?_
  refine JL_guard_yes rfl rfl ?_
  refine JL_loadA (vs := [_, _, _, _, _, _]) 0 ty28 rfl rfl ⟨rfl, rfl, rfl, rfl, rfl, rfl, trivial⟩ ?_
  refine JL_guard_yes rfl rfl ?_
  refine JL_loadA (vs := [_, _, _, _, _, _]) 1 ty28 rfl rfl ⟨rfl, rfl, rfl, rfl, rfl, rfl, trivial⟩ ?_
  refine JL_guard_yes rfl rfl ?_
  refine JL_loadA (vs := [_, _, _]) 2 ty26 rfl rfl ⟨rfl, rfl, rfl, trivial⟩ ?_
  refine JL_guard_yes rfl rfl ?_
  refine JL_loadA (vs := [_, _, _]) 2 ty26 rfl rfl ⟨rfl, rfl, rfl, trivial⟩ ?_
  refine JL_guard_yes rfl rfl ?_
  refine JL_build (cs := [_, _, _, _, _, _]) [(0, [_, _, _]), (1, [_, _, _])] st28 ⟨⟨rfl, _, rfl, rfl⟩, ⟨rfl, _, rfl, rfl⟩, rfl⟩ rfl ?_
  refine JL_guard_yes rfl rfl ?_
  refine JL_buildN (cs0 := [.bool false, .slice none 0 0, .slice none 0 0, .bool false, .slice none 0 0, .slice none 0 0, .bool false, .slice none 0 0, .slice none 0 0, .bool false, .slice none 0 0, .slice none 0 0, .bool false, .slice none 0 0, .slice none 0 0, .bool false, .slice none 0 0, .slice none 0 0]) (cs := [_, _, _, _, _, _, _, _, _, _, _, _, _, _, _, _, _, _]) [(0, [_, _, _, _, _, _]), (1, [_, _, _, _, _, _]), (2, [_, _, _, _, _, _])] sl59 (by kernel_rfl) ⟨⟨rfl, _, rfl, rfl⟩, ⟨rfl, _, rfl, rfl⟩, ⟨rfl, _, rfl, rfl⟩, rfl⟩ rfl rfl rfl rfl (fun g23 => ?_)
  refine JL_guard_yes rfl rfl ?_
  refine JL_callF' (Asks.cons (by first | exact holds_of_mem (by repeat (first | with_reducible exact mm0 | refine mmS ?_)) | (exact holds_of_own 3 rfl)) Asks.nil) (lfew_con (l := [⟨s1, ad1, n1, c1, be1, m1, e1, s2, ad2, n2, c2, be2, m2, e2⟩, ⟨s3, ad3, n3, c3, be3, m3, e3, s4, ad4, n4, c4, be4, m4, e4⟩, ⟨s5, ad5, n5, c5, be5, m5, e5, s5, ad5, n5, c5, be5, m5, e5⟩]) rfl (Nat.le_of_ble_eq_true rfl)) rfl ca9 ⟨rfl, rfl⟩ ?_
  rintro _ _ ⟨b24, rfl, rfl, hb24⟩
  refine JL_splitV (fun h24 => ?_) (fun h24 => ?_)
  · have hk := hb24 h24
    obtain ⟨a1, b1, a2, b2⟩ : n1 ≤ 4 ∧ m1 ≤ 4 ∧ n2 ≤ 4 ∧ m2 ≤ 4 := hk 0 (Nat.le_of_ble_eq_true rfl)
    have G1 := r1.fin (s := s1) a1 b1
    have hq1 := G1.qs
    obtain ⟨q1, hQ1⟩ : ∃ q, mkq s1 (val L1) (val M1) = q := ⟨_, rfl⟩
    rw [hQ1] at G1 hq1
    have G2 := r2.fin (s := s2) a2 b2
    have hq2 := G2.qs
    obtain ⟨q2, hQ2⟩ : ∃ q, mkq s2 (val L2) (val M2) = q := ⟨_, rfl⟩
    rw [hQ2] at G2 hq2
    obtain ⟨a3, b3, a4, b4⟩ : n3 ≤ 4 ∧ m3 ≤ 4 ∧ n4 ≤ 4 ∧ m4 ≤ 4 := hk 1 (Nat.le_of_ble_eq_true rfl)
    have G3 := r3.fin (s := s3) a3 b3
    have hq3 := G3.qs
    obtain ⟨q3, hQ3⟩ : ∃ q, mkq s3 (val L3) (val M3) = q := ⟨_, rfl⟩
    rw [hQ3] at G3 hq3
    have G4 := r4.fin (s := s4) a4 b4
    have hq4 := G4.qs
    obtain ⟨q4, hQ4⟩ : ∃ q, mkq s4 (val L4) (val M4) = q := ⟨_, rfl⟩
    rw [hQ4] at G4 hq4
    obtain ⟨a5, b5, a5, b5⟩ : n5 ≤ 4 ∧ m5 ≤ 4 ∧ n5 ≤ 4 ∧ m5 ≤ 4 := hk 2 (Nat.le_of_ble_eq_true rfl)
    have G5 := r5.fin (s := s5) a5 b5
    have hq5 := G5.qs
    obtain ⟨q5, hQ5⟩ : ∃ q, mkq s5 (val L5) (val M5) = q := ⟨_, rfl⟩
    rw [hQ5] at G5 hq5
    have hA : qs (fval (onv (v2 q1 q2 q5 q5) (q1 * q5))) 1000000000 := qs_onv (hq1.mul hq5 (by decide))
    have hB : qs (fval (onv (v2 q1 q2 q5 q5) (q2 * q5))) 1000000000 := qs_onv (hq2.mul hq5 (by decide))
    have hC : qs (fval (onv (mtV q1 q2 q3 q4) (mlo q1 q3))) 1000000000 := qs_onv (qs_mlo (hq1.mono (by decide)) (hq3.mono (by decide)))
    have hD : qs (fval (onv (mtV q1 q2 q3 q4) (mhi q2 q4))) 1000000000 := qs_onv (qs_mhi (hq2.mono (by decide)) (hq4.mono (by decide)))
    refine JL_guard_yes rfl rfl ?_
    refine JL_not rfl ?_
    rw [Bool.not_true]
    refine JL_pick_f rfl rfl ?_
    refine JL_done_up 70 [box _ _ [_, _, _, _, _, _], box _ _ [_, _, _, _, _, _], box _ _ [_, _, _], osl _ _ _ _ _ _] [_, _, _, _, _, _, _, _, _, _] rfl rfl (by simp only [upd_pend, upd_base, flatP, updV_zero, updV_succ]; rfl) rfl rfl ?_
    refine JC_false rfl ?_
    refine JC_skip ?_
    refine JE_then ?_
    refine JC_seq ?_
    refine JC_region ?_
    refine JL_loadA (vs := [_, _, _, _, _, _]) 0 ty28 rfl rfl ⟨rfl, rfl, rfl, rfl, rfl, rfl, trivial⟩ ?_
    refine JL_loadA (vs := [_, _, _]) 2 ty26 rfl rfl ⟨rfl, rfl, rfl, trivial⟩ ?_
    refine JL_callF' (Asks.cons (by first | exact holds_of_mem (by repeat (first | with_reducible exact mm0 | refine mmS ?_)) | (exact holds_of_own 3 rfl)) (Asks.cons (by first | exact holds_of_mem (by repeat (first | with_reducible exact mm0 | refine mmS ?_)) | (exact holds_of_own 3 rfl)) (Asks.cons (by first | exact holds_of_mem (by repeat (first | with_reducible exact mm0 | refine mmS ?_)) | (exact holds_of_own 3 rfl)) (Asks.cons (by first | exact holds_of_mem (by repeat (first | with_reducible exact mm0 | refine mmS ?_)) | (exact holds_of_own 3 rfl)) (Asks.cons (by first | exact holds_of_mem (by repeat (first | with_reducible exact mm0 | refine mmS ?_)) | (exact holds_of_own 3 rfl)) (Asks.cons (by first | exact holds_of_mem (by repeat (first | with_reducible exact mm0 | refine mmS ?_)) | (exact holds_of_own 3 rfl)) Asks.nil)))))) (iscale_con (G1.mono (by decide)) (G2.mono (by decide)) (G5.mono (by decide))) rfl ca22 ⟨rfl, rfl, rfl⟩ ?_
    rintro _ _ ⟨ad31, cp31, be31, ce31, af31, cq31, bg31, cf31, rfl, rfl⟩
    refine JL_move rfl ?_
    refine JL_extract rfl rfl ?_
    refine JL_extract rfl rfl ?_
    refine JL_alloc z28 (fun b7 => ?_)
    refine JL_store (vs := [_, _, _, _, _, _]) 4 ty28 rfl rfl rfl (AllOne.cons rfl (AllOne.cons rfl (AllOne.cons rfl (AllOne.cons rfl (AllOne.cons rfl (AllOne.cons rfl AllOne.nil)))))) rfl (Nat.le_of_ble_eq_true rfl) ?_
    refine JL_assign rfl ?_
    refine JL_done_up 70 [box _ _ [_, _, _, _, _, _], box _ _ [_, _, _, _, _, _], box _ _ [_, _, _], osl _ _ _ _ _ _, box _ _ [_, _, _, _, _, _]] [_, _, _, _, _, _, _, _, _, _, _, _, _, _] rfl rfl (by simp only [upd_pend, upd_base, flatP, updV_zero, updV_succ]; rfl) rfl rfl ?_
    refine JC_seq ?_
    refine JC_region ?_
    refine JL_loadA (vs := [_, _, _, _, _, _]) 0 ty28 rfl rfl ⟨rfl, rfl, rfl, rfl, rfl, rfl, trivial⟩ ?_
    refine JL_loadA (vs := [_, _, _]) 2 ty26 rfl rfl ⟨rfl, rfl, rfl, trivial⟩ ?_
    refine JL_callF' (Asks.cons (by first | exact holds_of_mem (by repeat (first | with_reducible exact mm0 | refine mmS ?_)) | (exact holds_of_own 3 rfl)) (Asks.cons (by first | exact holds_of_mem (by repeat (first | with_reducible exact mm0 | refine mmS ?_)) | (exact holds_of_own 3 rfl)) (Asks.cons (by first | exact holds_of_mem (by repeat (first | with_reducible exact mm0 | refine mmS ?_)) | (exact holds_of_own 3 rfl)) (Asks.cons (by first | exact holds_of_mem (by repeat (first | with_reducible exact mm0 | refine mmS ?_)) | (exact holds_of_own 3 rfl)) (Asks.cons (by first | exact holds_of_mem (by repeat (first | with_reducible exact mm0 | refine mmS ?_)) | (exact holds_of_own 3 rfl)) (Asks.cons (by first | exact holds_of_mem (by repeat (first | with_reducible exact mm0 | refine mmS ?_)) | (exact holds_of_own 3 rfl)) Asks.nil)))))) (rscale_con (G1.mono (by decide)) (G2.mono (by decide)) (G5.mono (by decide))) rfl ca23 ⟨rfl, rfl, rfl⟩ ?_
    rintro _ _ ⟨ad37, cp37, be37, ce37, af37, cq37, bg37, cf37, rfl, rfl⟩
    refine JL_move rfl ?_
    refine JL_extract rfl rfl ?_
    refine JL_extract rfl rfl ?_
    refine JL_alloc z28 (fun b9 => ?_)
    refine JL_store (vs := [_, _, _, _, _, _]) 5 ty28 rfl rfl rfl (AllOne.cons rfl (AllOne.cons rfl (AllOne.cons rfl (AllOne.cons rfl (AllOne.cons rfl (AllOne.cons rfl AllOne.nil)))))) rfl (Nat.le_of_ble_eq_true rfl) ?_
    refine JL_assign rfl ?_
    refine JL_done_up 70 [box _ _ [_, _, _, _, _, _], box _ _ [_, _, _, _, _, _], box _ _ [_, _, _], osl _ _ _ _ _ _, box _ _ [_, _, _, _, _, _], box _ _ [_, _, _, _, _, _]] [_, _, _, _, _, _, _, _, _, _, _, _, _, _, _, _, _, _] rfl rfl (by simp only [upd_pend, upd_base, flatP, updV_zero, updV_succ]; rfl) rfl rfl ?_
    refine JC_seq ?_
    refine JC_region ?_
    refine JL_loadA (vs := [_, _, _, _, _, _]) 0 ty28 rfl rfl ⟨rfl, rfl, rfl, rfl, rfl, rfl, trivial⟩ ?_
    refine JL_loadA (vs := [_, _, _, _, _, _]) 1 ty28 rfl rfl ⟨rfl, rfl, rfl, rfl, rfl, rfl, trivial⟩ ?_
    refine JL_callF' (Asks.cons (by first | exact holds_of_mem (by repeat (first | with_reducible exact mm0 | refine mmS ?_)) | (exact holds_of_own 3 rfl)) (Asks.cons (by first | exact holds_of_mem (by repeat (first | with_reducible exact mm0 | refine mmS ?_)) | (exact holds_of_own 3 rfl)) (Asks.cons (by first | exact holds_of_mem (by repeat (first | with_reducible exact mm0 | refine mmS ?_)) | (exact holds_of_own 3 rfl)) (Asks.cons (by first | exact holds_of_mem (by repeat (first | with_reducible exact mm0 | refine mmS ?_)) | (exact holds_of_own 3 rfl)) (Asks.cons (by first | exact holds_of_mem (by repeat (first | with_reducible exact mm0 | refine mmS ?_)) | (exact holds_of_own 3 rfl)) (Asks.cons (by first | exact holds_of_mem (by repeat (first | with_reducible exact mm0 | refine mmS ?_)) | (exact holds_of_own 3 rfl)) (Asks.cons (by first | exact holds_of_mem (by repeat (first | with_reducible exact mm0 | refine mmS ?_)) | (exact holds_of_own 3 rfl)) (Asks.cons (by first | exact holds_of_mem (by repeat (first | with_reducible exact mm0 | refine mmS ?_)) | (exact holds_of_own 3 rfl)) Asks.nil)))))))) (imeet_con (G1.mono (by decide)) (G2.mono (by decide)) (G3.mono (by decide)) (G4.mono (by decide))) rfl ca24 ⟨rfl, rfl, rfl⟩ ?_
    rintro _ _ ⟨ad43, cp43, be43, ce43, af43, cq43, bg43, cf43, rfl, rfl⟩
    refine JL_move rfl ?_
    refine JL_extract rfl rfl ?_
    refine JL_extract rfl rfl ?_
    refine JL_alloc z28 (fun b11 => ?_)
    refine JL_store (vs := [_, _, _, _, _, _]) 6 ty28 rfl rfl rfl (AllOne.cons rfl (AllOne.cons rfl (AllOne.cons rfl (AllOne.cons rfl (AllOne.cons rfl (AllOne.cons rfl AllOne.nil)))))) rfl (Nat.le_of_ble_eq_true rfl) ?_
    refine JL_assign rfl ?_
    refine JL_done_up 70 [box _ _ [_, _, _, _, _, _], box _ _ [_, _, _, _, _, _], box _ _ [_, _, _], osl _ _ _ _ _ _, box _ _ [_, _, _, _, _, _], box _ _ [_, _, _, _, _, _], box _ _ [_, _, _, _, _, _]] [_, _, _, _, _, _, _, _, _, _, _, _, _, _, _, _, _, _, _, _, _, _] rfl rfl (by simp only [upd_pend, upd_base, flatP, updV_zero, updV_succ]; rfl) rfl rfl ?_
    refine JC_seq ?_
    refine JC_region ?_
    refine JL_loadA (vs := [_, _, _, _, _, _]) 0 ty28 rfl rfl ⟨rfl, rfl, rfl, rfl, rfl, rfl, trivial⟩ ?_
    refine JL_loadA (vs := [_, _, _, _, _, _]) 1 ty28 rfl rfl ⟨rfl, rfl, rfl, rfl, rfl, rfl, trivial⟩ ?_
    refine JL_callF' (Asks.cons (by first | exact holds_of_mem (by repeat (first | with_reducible exact mm0 | refine mmS ?_)) | (exact holds_of_own 3 rfl)) (Asks.cons (by first | exact holds_of_mem (by repeat (first | with_reducible exact mm0 | refine mmS ?_)) | (exact holds_of_own 3 rfl)) (Asks.cons (by first | exact holds_of_mem (by repeat (first | with_reducible exact mm0 | refine mmS ?_)) | (exact holds_of_own 3 rfl)) (Asks.cons (by first | exact holds_of_mem (by repeat (first | with_reducible exact mm0 | refine mmS ?_)) | (exact holds_of_own 3 rfl)) (Asks.cons (by first | exact holds_of_mem (by repeat (first | with_reducible exact mm0 | refine mmS ?_)) | (exact holds_of_own 3 rfl)) (Asks.cons (by first | exact holds_of_mem (by repeat (first | with_reducible exact mm0 | refine mmS ?_)) | (exact holds_of_own 3 rfl)) (Asks.cons (by first | exact holds_of_mem (by repeat (first | with_reducible exact mm0 | refine mmS ?_)) | (exact holds_of_own 3 rfl)) (Asks.cons (by first | exact holds_of_mem (by repeat (first | with_reducible exact mm0 | refine mmS ?_)) | (exact holds_of_own 3 rfl)) Asks.nil)))))))) (rmeet_con (G1.mono (by decide)) (G2.mono (by decide)) (G3.mono (by decide)) (G4.mono (by decide))) rfl ca25 ⟨rfl, rfl, rfl⟩ ?_
    rintro _ _ ⟨ad49, cp49, be49, ce49, af49, cq49, bg49, cf49, rfl, rfl⟩
    refine JL_move rfl ?_
    refine JL_extract rfl rfl ?_
    refine JL_extract rfl rfl ?_
    refine JL_alloc z28 (fun b13 => ?_)
    refine JL_store (vs := [_, _, _, _, _, _]) 7 ty28 rfl rfl rfl (AllOne.cons rfl (AllOne.cons rfl (AllOne.cons rfl (AllOne.cons rfl (AllOne.cons rfl (AllOne.cons rfl AllOne.nil)))))) rfl (Nat.le_of_ble_eq_true rfl) ?_
    refine JL_assign rfl ?_
    refine JL_done_up 70 [box _ _ [_, _, _, _, _, _], box _ _ [_, _, _, _, _, _], box _ _ [_, _, _], osl _ _ _ _ _ _, box _ _ [_, _, _, _, _, _], box _ _ [_, _, _, _, _, _], box _ _ [_, _, _, _, _, _], box _ _ [_, _, _, _, _, _]] [_, _, _, _, _, _, _, _, _, _, _, _, _, _, _, _, _, _, _, _, _, _, _, _, _, _] rfl rfl (by simp only [upd_pend, upd_base, flatP, updV_zero, updV_succ]; rfl) rfl rfl ?_
    refine JC_seq ?_
    refine JC_region ?_
    refine JL_loadA (vs := [_, _, _, _, _, _]) 4 ty28 rfl rfl ⟨rfl, rfl, rfl, rfl, rfl, rfl, trivial⟩ ?_
    refine JL_loadA (vs := [_, _, _, _, _, _]) 5 ty28 rfl rfl ⟨rfl, rfl, rfl, rfl, rfl, rfl, trivial⟩ ?_
    refine JL_callF' (Asks.cons (by first | exact holds_of_mem (by repeat (first | with_reducible exact mm0 | refine mmS ?_)) | (exact holds_of_own 3 rfl)) (Asks.cons (by first | exact holds_of_mem (by repeat (first | with_reducible exact mm0 | refine mmS ?_)) | (exact holds_of_own 3 rfl)) (Asks.cons (by first | exact holds_of_mem (by repeat (first | with_reducible exact mm0 | refine mmS ?_)) | (exact holds_of_own 3 rfl)) (Asks.cons (by first | exact holds_of_mem (by repeat (first | with_reducible exact mm0 | refine mmS ?_)) | (exact holds_of_own 3 rfl)) (Asks.cons (by first | exact holds_of_mem (by repeat (first | with_reducible exact mm0 | refine mmS ?_)) | (exact holds_of_own 3 rfl)) (Asks.cons (by first | exact holds_of_mem (by repeat (first | with_reducible exact mm0 | refine mmS ?_)) | (exact holds_of_own 3 rfl)) (Asks.cons (by first | exact holds_of_mem (by repeat (first | with_reducible exact mm0 | refine mmS ?_)) | (exact holds_of_own 3 rfl)) (Asks.cons (by first | exact holds_of_mem (by repeat (first | with_reducible exact mm0 | refine mmS ?_)) | (exact holds_of_own 3 rfl)) Asks.nil)))))))) (bspan_con hA hB rfl rfl) rfl ca17 ⟨rfl, rfl, rfl⟩ ?_
    rintro _ _ ⟨rfl, rfl⟩
    refine JL_move rfl ?_
    refine JL_guard_yes rfl rfl ?_
    refine JL_move rfl ?_
    refine JL_guard_yes rfl rfl ?_
    refine JL_move rfl ?_
    refine JL_guard_yes rfl rfl ?_
    refine JL_eql rfl rfl ?_
    rw [decide_eq_true rfl]
    refine JL_pick_t rfl rfl ?_
    refine JL_move rfl ?_
    refine JL_guard_yes rfl rfl ?_
    refine JL_loadA (vs := [_, _, _, _, _, _]) 6 ty28 rfl rfl ⟨rfl, rfl, rfl, rfl, rfl, rfl, trivial⟩ ?_
    refine JL_guard_yes rfl rfl ?_
    refine JL_loadA (vs := [_, _, _, _, _, _]) 7 ty28 rfl rfl ⟨rfl, rfl, rfl, rfl, rfl, rfl, trivial⟩ ?_
    refine JL_guard_yes rfl rfl ?_
    refine JL_callF' (Asks.cons (by first | exact holds_of_mem (by repeat (first | with_reducible exact mm0 | refine mmS ?_)) | (exact holds_of_own 3 rfl)) (Asks.cons (by first | exact holds_of_mem (by repeat (first | with_reducible exact mm0 | refine mmS ?_)) | (exact holds_of_own 3 rfl)) (Asks.cons (by first | exact holds_of_mem (by repeat (first | with_reducible exact mm0 | refine mmS ?_)) | (exact holds_of_own 3 rfl)) (Asks.cons (by first | exact holds_of_mem (by repeat (first | with_reducible exact mm0 | refine mmS ?_)) | (exact holds_of_own 3 rfl)) (Asks.cons (by first | exact holds_of_mem (by repeat (first | with_reducible exact mm0 | refine mmS ?_)) | (exact holds_of_own 3 rfl)) (Asks.cons (by first | exact holds_of_mem (by repeat (first | with_reducible exact mm0 | refine mmS ?_)) | (exact holds_of_own 3 rfl)) (Asks.cons (by first | exact holds_of_mem (by repeat (first | with_reducible exact mm0 | refine mmS ?_)) | (exact holds_of_own 3 rfl)) (Asks.cons (by first | exact holds_of_mem (by repeat (first | with_reducible exact mm0 | refine mmS ?_)) | (exact holds_of_own 3 rfl)) Asks.nil)))))))) (bspan_con hC hD rfl rfl) rfl ca17 ⟨rfl, rfl, rfl⟩ ?_
    rintro _ _ ⟨rfl, rfl⟩
    refine JL_pick_t rfl rfl ?_
    refine JL_move rfl ?_
    refine JL_guard_yes rfl rfl ?_
    refine JL_move rfl ?_
    refine JL_guard_yes rfl rfl ?_
    refine JL_move rfl ?_
    refine JL_guard_yes rfl rfl ?_
    refine JL_eqlB ub4 rfl rfl ?_
    rw [beq_self_eq_true]
    refine JL_pick_t rfl rfl ?_
    refine JL_assign rfl ?_
    refine JL_done_up 70 [box _ _ [_, _, _, _, _, _], box _ _ [_, _, _, _, _, _], box _ _ [_, _, _], osl _ _ _ _ _ _, box _ _ [_, _, _, _, _, _], box _ _ [_, _, _, _, _, _], box _ _ [_, _, _, _, _, _], box _ _ [_, _, _, _, _, _]] [_, _, _, _, _, _, _, _, _, _, _, _, _, _, _, _, _, _, _, _, _, _, _, _, _, _] rfl rfl (by simp only [upd_pend, upd_base, flatP, updV_zero, updV_succ]; rfl) rfl rfl ?_
    refine JC_ret ?_
    refine JE_ret (vs := [_]) [] Tryd.results5 ⟨rfl, rfl⟩ ?_ ?_
    · exact ⟨rfl, rfl⟩
    · exact all_nil
  · refine JL_guard_yes rfl rfl ?_
    refine JL_not rfl ?_
    rw [Bool.not_false]
    refine JL_pick_f rfl rfl ?_
    refine JL_done_up 70 [box _ _ [_, _, _, _, _, _], box _ _ [_, _, _, _, _, _], box _ _ [_, _, _], osl _ _ _ _ _ _] [_, _, _, _, _, _, _, _, _, _] rfl rfl (by simp only [upd_pend, upd_base, flatP, updV_zero, updV_succ]; rfl) rfl rfl ?_
    refine JC_true rfl ?_
    refine JC_seq ?_
    refine JC_region ?_
    refine JL_callF' Asks.nil (lawake_con) rfl ca8 rfl ?_
    rintro _ _ ⟨rfl, rfl⟩
    refine JL_assign rfl ?_
    refine JL_done_up 70 [box _ _ [_, _, _, _, _, _], box _ _ [_, _, _, _, _, _], box _ _ [_, _, _], osl _ _ _ _ _ _] [_, _, _, _, _, _, _, _, _, _] rfl rfl (by simp only [upd_pend, upd_base, flatP, updV_zero, updV_succ]; rfl) rfl rfl ?_
    refine JC_ret ?_
    refine JE_then_ret ?_
    refine JE_ret (vs := [_]) [] Tryd.results5 ⟨rfl, rfl⟩ ?_ ?_
    · exact ⟨rfl, rfl⟩
    · exact all_nil

end Go.Fw.K
