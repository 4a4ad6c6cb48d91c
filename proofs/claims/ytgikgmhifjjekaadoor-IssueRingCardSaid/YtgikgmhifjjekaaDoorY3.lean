/- Walks through functions of the given program: each meets its contract. (Printed by a program of this repo.) -/
import Derived.Test.YtgikgmhifjjekaaDoorX2
import Derived.Test.YtgikgmhifjjekaaDoorL2
import Derived.Test.YtgikgmhifjjekaaDoorI1
import Derived.Test.YtgikgmhifjjekaaDoorJ1
import Derived.Test.YtgikgmhifjjekaaDoorB1
import Derived.Test.YtgikgmhifjjekaaDoorProg
namespace Go.Fw.Y3
open Go Go.RowKit Go.Proofs Go.Nat9 Go.Fw
attribute [local irreducible] JC JL JE
theorem ca10 : callable Tryd.prog 10 = true := by kernel_rfl
theorem ca11 : callable Tryd.prog 11 = true := by kernel_rfl
theorem ca12 : callable Tryd.prog 12 = true := by kernel_rfl
theorem ca13 : callable Tryd.prog 13 = true := by kernel_rfl
theorem ca8 : callable Tryd.prog 8 = true := by kernel_rfl
theorem ca9 : callable Tryd.prog 9 = true := by kernel_rfl
theorem sl54 : slOf Tryd.prog 54 = some (28, 6, 112, [.bool false, .slice none 0 0, .slice none 0 0, .bool false, .slice none 0 0, .slice none 0 0]) := by kernel_rfl
theorem ty28 : tyOf Tryd.prog 28 = some (true, 6) := by kernel_rfl
theorem z28 : zeroOf Tryd.prog 28 = some [.bool false, .slice none 0 0, .slice none 0 0, .bool false, .slice none 0 0, .slice none 0 0] := by kernel_rfl
end Go.Fw.Y3
namespace Go.Fw.K
open Go Go.RowKit Go.Proofs Go.Nat9 Go.Fw Go.Fw.Y3
attribute [local irreducible] JC JL JE

set_option maxHeartbeats 8000000 in
set_option maxRecDepth 20000 in
theorem issueRing_con {s1 : Bool} {ad1 : Option Addr} {n1 c1 : Nat} {L1 : List Nat} {be1 : Option Addr} {m1 e1 : Nat} {M1 : List Nat} (r1 : RIn n1 L1 m1 M1) {s2 : Bool} {ad2 : Option Addr} {n2 c2 : Nat} {L2 : List Nat} {be2 : Option Addr} {m2 e2 : Nat} {M2 : List Nat} (r2 : RIn n2 L2 m2 M2) {s3 : Bool} {ad3 : Option Addr} {n3 c3 : Nat} {L3 : List Nat} {be3 : Option Addr} {m3 e3 : Nat} {M3 : List Nat} (r3 : RIn n3 L3 m3 M3) {s4 : Bool} {ad4 : Option Addr} {n4 c4 : Nat} {L4 : List Nat} {be4 : Option Addr} {m4 e4 : Nat} {M4 : List Nat} (r4 : RIn n4 L4 m4 M4) {s5 : Bool} {ad5 : Option Addr} {n5 c5 : Nat} {L5 : List Nat} {be5 : Option Addr} {m5 e5 : Nat} {M5 : List Nat} (r5 : RIn n5 L5 m5 M5) {s6 : Bool} {ad6 : Option Addr} {n6 c6 : Nat} {L6 : List Nat} {be6 : Option Addr} {m6 e6 : Nat} {M6 : List Nat} (r6 : RIn n6 L6 m6 M6) :
    ConF Tryd.prog 3 [.agg #[.bool s1, .slice ad1 n1 c1, .slice be1 m1 e1, .bool s2, .slice ad2 n2 c2, .slice be2 m2 e2], .agg #[.bool s3, .slice ad3 n3 c3, .slice be3 m3 e3, .bool s4, .slice ad4 n4 c4, .slice be4 m4 e4], .agg #[.bool s5, .slice ad5 n5 c5, .slice be5 m5 e5, .bool s6, .slice ad6 n6 c6, .slice be6 m6 e6]] [vCells ad1 (u32s L1), vCells be1 (u32s M1), vCells ad2 (u32s L2), vCells be2 (u32s M2), vCells ad3 (u32s L3), vCells be3 (u32s M3), vCells ad4 (u32s L4), vCells be4 (u32s M4), vCells ad5 (u32s L5), vCells be5 (u32s M5), vCells ad6 (u32s L6), vCells be6 (u32s M6)]
      (fun v φo => v = .bool true ∧ φo = []) := by
  refine ConF_of Tryd.func3 rfl 168 _ rfl rfl ?_
  intro w0
  refine JC_norm ⟨168, [], [_, _, _, _, _, _, _, _, _, _, _, _, _, _, _, _, _, _, _, _, _, _, _, _, _, _, _, _, _, _, _, _, _, _, _, _, _, _, _, _, _, _, _, _, _, _, _, _, _, _, _, _, _, _, _, _, _, _, _, _, _, _, _, _, _, _, _, _, _, _, _, _, _, _, _, _, _, _, _, _, _, _, _, _, _, _, _, _, _, _, _, _, _, _, _, _, _, _, _, _, _, _, _, _, _, _, _, _, _, _, _, _, _, _, _, _, _, _, _, _, _, _, _, _, _, _, _, _, _, _, _, _, _, _, _, _, _, _, _, _, _, _, _, _, _, _, _, _, _, _, _, _, _, _, _, _, _, _, _, _, _, _, _, _, _, _, _, _]⟩ [] [_, _, _, _, _, _, _, _, _, _, _, _] rfl rfl rfl ?_
  refine JC_seq ?_
  refine JC_region ?_
  refine JL_box rfl rfl (fun b3 => ?_)
  refine JL_box rfl rfl (fun b4 => ?_)
  refine JL_box rfl rfl (fun b5 => ?_)
  refine JL_assign rfl ?_
  refine JL_done_up 168 [box _ _ [_, _, _, _, _, _], box _ _ [_, _, _, _, _, _], box _ _ [_, _, _, _, _, _]] [_, _, _, _, _, _, _, _, _, _, _, _] rfl rfl (by simp only [upd_pend, upd_base, flatP, updV_zero, updV_succ]; rfl) rfl rfl ?_
  refine JC_seq ?_
  refine JC_seq ?_
  refine JC_region ?_
  refine JL_callF' Asks.nil (lawake_con) rfl ca8 rfl ?_
  rintro _ _ ⟨rfl, rfl⟩
  refine JL_not rfl ?_
  rw [Bool.not_true]
  refine JL_move rfl ?_
  refine JL_guard_yes rfl rfl ?_
  refine JL_loadA (vs := [_, _, _, _, _, _]) 0 ty28 rfl rfl ⟨rfl, rfl, rfl, rfl, rfl, rfl, trivial⟩ ?_
  refine JL_guard_yes rfl rfl ?_
  refine JL_loadA (vs := [_, _, _, _, _, _]) 1 ty28 rfl rfl ⟨rfl, rfl, rfl, rfl, rfl, rfl, trivial⟩ ?_
  refine JL_guard_yes rfl rfl ?_
  refine JL_loadA (vs := [_, _, _, _, _, _]) 2 ty28 rfl rfl ⟨rfl, rfl, rfl, rfl, rfl, rfl, trivial⟩ ?_
  refine JL_guard_yes rfl rfl ?_
  refine JL_buildN (cs0 := [.bool false, .slice none 0 0, .slice none 0 0, .bool false, .slice none 0 0, .slice none 0 0, .bool false, .slice none 0 0, .slice none 0 0, .bool false, .slice none 0 0, .slice none 0 0, .bool false, .slice none 0 0, .slice none 0 0, .bool false, .slice none 0 0, .slice none 0 0]) (cs := [_, _, _, _, _, _, _, _, _, _, _, _, _, _, _, _, _, _]) [(0, [_, _, _, _, _, _]), (1, [_, _, _, _, _, _]), (2, [_, _, _, _, _, _])] sl54 (by kernel_rfl) ⟨⟨rfl, _, rfl, rfl⟩, ⟨rfl, _, rfl, rfl⟩, ⟨rfl, _, rfl, rfl⟩, rfl⟩ rfl rfl rfl rfl (fun g39 => ?_)
  refine JL_guard_yes rfl rfl ?_
  refine JL_callF' (Asks.cons (by first | exact holds_of_mem (by repeat (first | with_reducible exact mm0 | refine mmS ?_)) | (exact holds_of_own 3 rfl)) Asks.nil) (lfew_con (l := [⟨s1, ad1, n1, c1, be1, m1, e1, s2, ad2, n2, c2, be2, m2, e2⟩, ⟨s3, ad3, n3, c3, be3, m3, e3, s4, ad4, n4, c4, be4, m4, e4⟩, ⟨s5, ad5, n5, c5, be5, m5, e5, s6, ad6, n6, c6, be6, m6, e6⟩]) rfl (Nat.le_of_ble_eq_true rfl)) rfl ca9 ⟨rfl, rfl⟩ ?_
  rintro _ _ ⟨b40, rfl, rfl, hb40⟩
  refine JL_splitV (fun h40 => ?_) (fun h40 => ?_)
  · have hk := hb40 h40
    obtain ⟨a1, b1, a2, b2⟩ : n1 ≤ 4 ∧ m1 ≤ 4 ∧ n2 ≤ 4 ∧ m2 ≤ 4 := hk 0 (Nat.le_of_ble_eq_true rfl)
    have G1 := r1.fin (s := s1) a1 b1
    have hq1 := G1.qs
    obtain ⟨q1, hQ1⟩ : ∃ q, mkq s1 (val L1) (val M1) = q := ⟨_, rfl⟩
    rw [hQ1] at G1 hq1
    have G2 := r2.fin (s := s2) a2 b2
    have hq2 := G2.qs
    obtain ⟨q2, hQ2⟩ : ∃ q, mkq s2 (val L2) (val M2) = q := ⟨_, rfl⟩
    rw [hQ2] at G2 hq2
    obtain ⟨a3, b3, a4, b4⟩ : n3 ≤ 4 ∧ m3 ≤ 4 ∧ n4 ≤ 4 ∧ m4 ≤ 4 := hk 1 (Nat.le_of_ble_eq_true rfl)
    have G3 := r3.fin (s := s3) a3 b3
    have hq3 := G3.qs
    obtain ⟨q3, hQ3⟩ : ∃ q, mkq s3 (val L3) (val M3) = q := ⟨_, rfl⟩
    rw [hQ3] at G3 hq3
    have G4 := r4.fin (s := s4) a4 b4
    have hq4 := G4.qs
    obtain ⟨q4, hQ4⟩ : ∃ q, mkq s4 (val L4) (val M4) = q := ⟨_, rfl⟩
    rw [hQ4] at G4 hq4
    obtain ⟨a5, b5, a6, b6⟩ : n5 ≤ 4 ∧ m5 ≤ 4 ∧ n6 ≤ 4 ∧ m6 ≤ 4 := hk 2 (Nat.le_of_ble_eq_true rfl)
    have G5 := r5.fin (s := s5) a5 b5
    have hq5 := G5.qs
    obtain ⟨q5, hQ5⟩ : ∃ q, mkq s5 (val L5) (val M5) = q := ⟨_, rfl⟩
    rw [hQ5] at G5 hq5
    have G6 := r6.fin (s := s6) a6 b6
    have hq6 := G6.qs
    obtain ⟨q6, hQ6⟩ : ∃ q, mkq s6 (val L6) (val M6) = q := ⟨_, rfl⟩
    rw [hQ6] at G6 hq6
    refine JL_guard_yes rfl rfl ?_
    refine JL_not rfl ?_
    rw [Bool.not_true]
    refine JL_pick_f rfl rfl ?_
    refine JL_move rfl ?_
    refine JL_guard_yes rfl rfl ?_
    refine JL_loadA (vs := [_, _, _, _, _, _]) 0 ty28 rfl rfl ⟨rfl, rfl, rfl, rfl, rfl, rfl, trivial⟩ ?_
    refine JL_guard_yes rfl rfl ?_
    refine JL_callF' (Asks.cons (by first | exact holds_of_mem (by repeat (first | with_reducible exact mm0 | refine mmS ?_)) | (exact holds_of_own 3 rfl)) (Asks.cons (by first | exact holds_of_mem (by repeat (first | with_reducible exact mm0 | refine mmS ?_)) | (exact holds_of_own 3 rfl)) (Asks.cons (by first | exact holds_of_mem (by repeat (first | with_reducible exact mm0 | refine mmS ?_)) | (exact holds_of_own 3 rfl)) (Asks.cons (by first | exact holds_of_mem (by repeat (first | with_reducible exact mm0 | refine mmS ?_)) | (exact holds_of_own 3 rfl)) Asks.nil)))) (rvalid_con (G1.mono (by decide)) (G2.mono (by decide))) rfl ca10 ⟨rfl, rfl⟩ ?_
    rintro _ _ ⟨rfl, rfl⟩
    refine JL_splitV (fun h45 => ?_) (fun h45 => ?_)
    · refine JL_guard_yes rfl rfl ?_
      refine JL_not rfl ?_
      rw [Bool.not_true]
      refine JL_pick_f rfl rfl ?_
      refine JL_move rfl ?_
      refine JL_guard_yes rfl rfl ?_
      refine JL_loadA (vs := [_, _, _, _, _, _]) 1 ty28 rfl rfl ⟨rfl, rfl, rfl, rfl, rfl, rfl, trivial⟩ ?_
      refine JL_guard_yes rfl rfl ?_
      refine JL_callF' (Asks.cons (by first | exact holds_of_mem (by repeat (first | with_reducible exact mm0 | refine mmS ?_)) | (exact holds_of_own 3 rfl)) (Asks.cons (by first | exact holds_of_mem (by repeat (first | with_reducible exact mm0 | refine mmS ?_)) | (exact holds_of_own 3 rfl)) (Asks.cons (by first | exact holds_of_mem (by repeat (first | with_reducible exact mm0 | refine mmS ?_)) | (exact holds_of_own 3 rfl)) (Asks.cons (by first | exact holds_of_mem (by repeat (first | with_reducible exact mm0 | refine mmS ?_)) | (exact holds_of_own 3 rfl)) Asks.nil)))) (rvalid_con (G3.mono (by decide)) (G4.mono (by decide))) rfl ca10 ⟨rfl, rfl⟩ ?_
      rintro _ _ ⟨rfl, rfl⟩
      refine JL_splitV (fun h50 => ?_) (fun h50 => ?_)
      · refine JL_guard_yes rfl rfl ?_
        refine JL_not rfl ?_
        rw [Bool.not_true]
        refine JL_pick_f rfl rfl ?_
        refine JL_move rfl ?_
        refine JL_guard_yes rfl rfl ?_
        refine JL_loadA (vs := [_, _, _, _, _, _]) 2 ty28 rfl rfl ⟨rfl, rfl, rfl, rfl, rfl, rfl, trivial⟩ ?_
        refine JL_guard_yes rfl rfl ?_
        refine JL_callF' (Asks.cons (by first | exact holds_of_mem (by repeat (first | with_reducible exact mm0 | refine mmS ?_)) | (exact holds_of_own 3 rfl)) (Asks.cons (by first | exact holds_of_mem (by repeat (first | with_reducible exact mm0 | refine mmS ?_)) | (exact holds_of_own 3 rfl)) (Asks.cons (by first | exact holds_of_mem (by repeat (first | with_reducible exact mm0 | refine mmS ?_)) | (exact holds_of_own 3 rfl)) (Asks.cons (by first | exact holds_of_mem (by repeat (first | with_reducible exact mm0 | refine mmS ?_)) | (exact holds_of_own 3 rfl)) Asks.nil)))) (rvalid_con (G5.mono (by decide)) (G6.mono (by decide))) rfl ca10 ⟨rfl, rfl⟩ ?_
        rintro _ _ ⟨rfl, rfl⟩
        refine JL_splitV (fun h55 => ?_) (fun h55 => ?_)
        · have hAB1 : qs (fval (onv (v2 (q1) (q2) (q3) (q4)) (q1 + q3))) 20 := qs_onv (hq1.add hq3 (by decide))
          have hAB2 : qs (fval (onv (v2 (q1) (q2) (q3) (q4)) (q2 + q4))) 20 := qs_onv (hq2.add hq4 (by decide))
          have hBA1 : qs (fval (onv (v2 (q3) (q4) (q1) (q2)) (q3 + q1))) 20 := qs_onv (hq3.add hq1 (by decide))
          have hBA2 : qs (fval (onv (v2 (q3) (q4) (q1) (q2)) (q4 + q2))) 20 := qs_onv (hq4.add hq2 (by decide))
          have hBC1 : qs (fval (onv (v2 (q3) (q4) (q5) (q6)) (q3 + q5))) 20 := qs_onv (hq3.add hq5 (by decide))
          have hBC2 : qs (fval (onv (v2 (q3) (q4) (q5) (q6)) (q4 + q6))) 20 := qs_onv (hq4.add hq6 (by decide))
          have hLE1 : qs (fval (onv (v2 ((fval (onv (v2 (q1) (q2) (q3) (q4)) (q1 + q3)))) ((fval (onv (v2 (q1) (q2) (q3) (q4)) (q2 + q4)))) (q5) (q6)) ((fval (onv (v2 (q1) (q2) (q3) (q4)) (q1 + q3))) + q5))) 40 := qs_onv (hAB1.add hq5 (by decide))
          have hLE2 : qs (fval (onv (v2 ((fval (onv (v2 (q1) (q2) (q3) (q4)) (q1 + q3)))) ((fval (onv (v2 (q1) (q2) (q3) (q4)) (q2 + q4)))) (q5) (q6)) ((fval (onv (v2 (q1) (q2) (q3) (q4)) (q2 + q4))) + q6))) 40 := qs_onv (hAB2.add hq6 (by decide))
          have hRI1 : qs (fval (onv (v2 (q1) (q2) ((fval (onv (v2 (q3) (q4) (q5) (q6)) (q3 + q5)))) ((fval (onv (v2 (q3) (q4) (q5) (q6)) (q4 + q6))))) (q1 + (fval (onv (v2 (q3) (q4) (q5) (q6)) (q3 + q5)))))) 40 := qs_onv (hq1.add hBC1 (by decide))
          have hRI2 : qs (fval (onv (v2 (q1) (q2) ((fval (onv (v2 (q3) (q4) (q5) (q6)) (q3 + q5)))) ((fval (onv (v2 (q3) (q4) (q5) (q6)) (q4 + q6))))) (q2 + (fval (onv (v2 (q3) (q4) (q5) (q6)) (q4 + q6)))))) 40 := qs_onv (hq2.add hBC2 (by decide))
          have hXY1 : qs (fval (onv (v2 (q1) (q2) (q3) (q4)) (q1 * q3))) 20 := qs_onv (hq1.mul hq3 (by decide))
          have hXY2 : qs (fval (onv (v2 (q1) (q2) (q3) (q4)) (q2 * q4))) 20 := qs_onv (hq2.mul hq4 (by decide))
          have hYX1 : qs (fval (onv (v2 (q3) (q4) (q1) (q2)) (q3 * q1))) 20 := qs_onv (hq3.mul hq1 (by decide))
          have hYX2 : qs (fval (onv (v2 (q3) (q4) (q1) (q2)) (q4 * q2))) 20 := qs_onv (hq4.mul hq2 (by decide))
          have hYZ1 : qs (fval (onv (v2 (q3) (q4) (q5) (q6)) (q3 * q5))) 20 := qs_onv (hq3.mul hq5 (by decide))
          have hYZ2 : qs (fval (onv (v2 (q3) (q4) (q5) (q6)) (q4 * q6))) 20 := qs_onv (hq4.mul hq6 (by decide))
          have hFI1 : qs (fval (onv (v2 ((fval (onv (v2 (q1) (q2) (q3) (q4)) (q1 * q3)))) ((fval (onv (v2 (q1) (q2) (q3) (q4)) (q2 * q4)))) (q5) (q6)) ((fval (onv (v2 (q1) (q2) (q3) (q4)) (q1 * q3))) * q5))) 40 := qs_onv (hXY1.mul hq5 (by decide))
          have hFI2 : qs (fval (onv (v2 ((fval (onv (v2 (q1) (q2) (q3) (q4)) (q1 * q3)))) ((fval (onv (v2 (q1) (q2) (q3) (q4)) (q2 * q4)))) (q5) (q6)) ((fval (onv (v2 (q1) (q2) (q3) (q4)) (q2 * q4))) * q6))) 40 := qs_onv (hXY2.mul hq6 (by decide))
          have hLA1 : qs (fval (onv (v2 (q1) (q2) ((fval (onv (v2 (q3) (q4) (q5) (q6)) (q3 * q5)))) ((fval (onv (v2 (q3) (q4) (q5) (q6)) (q4 * q6))))) (q1 * (fval (onv (v2 (q3) (q4) (q5) (q6)) (q3 * q5)))))) 40 := qs_onv (hq1.mul hYZ1 (by decide))
          have hLA2 : qs (fval (onv (v2 (q1) (q2) ((fval (onv (v2 (q3) (q4) (q5) (q6)) (q3 * q5)))) ((fval (onv (v2 (q3) (q4) (q5) (q6)) (q4 * q6))))) (q2 * (fval (onv (v2 (q3) (q4) (q5) (q6)) (q4 * q6)))))) 40 := qs_onv (hq2.mul hYZ2 (by decide))
          have hXZ1 : qs (fval (onv (v2 (q1) (q2) (q5) (q6)) (q1 * q5))) 20 := qs_onv (hq1.mul hq5 (by decide))
          have hXZ2 : qs (fval (onv (v2 (q1) (q2) (q5) (q6)) (q2 * q6))) 20 := qs_onv (hq2.mul hq6 (by decide))
          have hWH1 : qs (fval (onv (v2 (q1) (q2) ((fval (onv (v2 (q3) (q4) (q5) (q6)) (q3 + q5)))) ((fval (onv (v2 (q3) (q4) (q5) (q6)) (q4 + q6))))) (q1 * (fval (onv (v2 (q3) (q4) (q5) (q6)) (q3 + q5)))))) 40 := qs_onv (hq1.mul hBC1 (by decide))
          have hWH2 : qs (fval (onv (v2 (q1) (q2) ((fval (onv (v2 (q3) (q4) (q5) (q6)) (q3 + q5)))) ((fval (onv (v2 (q3) (q4) (q5) (q6)) (q4 + q6))))) (q2 * (fval (onv (v2 (q3) (q4) (q5) (q6)) (q4 + q6)))))) 40 := qs_onv (hq2.mul hBC2 (by decide))
          have hPA1 : qs (fval (onv (v2 ((fval (onv (v2 (q1) (q2) (q3) (q4)) (q1 * q3)))) ((fval (onv (v2 (q1) (q2) (q3) (q4)) (q2 * q4)))) ((fval (onv (v2 (q1) (q2) (q5) (q6)) (q1 * q5)))) ((fval (onv (v2 (q1) (q2) (q5) (q6)) (q2 * q6))))) ((fval (onv (v2 (q1) (q2) (q3) (q4)) (q1 * q3))) + (fval (onv (v2 (q1) (q2) (q5) (q6)) (q1 * q5)))))) 60 := qs_onv (hXY1.add hXZ1 (by decide))
          have hPA2 : qs (fval (onv (v2 ((fval (onv (v2 (q1) (q2) (q3) (q4)) (q1 * q3)))) ((fval (onv (v2 (q1) (q2) (q3) (q4)) (q2 * q4)))) ((fval (onv (v2 (q1) (q2) (q5) (q6)) (q1 * q5)))) ((fval (onv (v2 (q1) (q2) (q5) (q6)) (q2 * q6))))) ((fval (onv (v2 (q1) (q2) (q3) (q4)) (q2 * q4))) + (fval (onv (v2 (q1) (q2) (q5) (q6)) (q2 * q6)))))) 60 := qs_onv (hXY2.add hXZ2 (by decide))
          have w12 := v2_t h45 h50
          have w21 := v2_t h50 h45
          have w23 := v2_t h50 h55
          have w13 := v2_t h45 h55
          have u1 := v2_t (vld_add h45 h50) h55
          have u2 := v2_t h45 (vld_add h50 h55)
          have u3 := v2_t (vld_mul h45 h50) h55
          have u4 := v2_t h45 (vld_mul h50 h55)
          have u5 := v2_t (vld_mul h45 h50) (vld_mul h45 h55)
          refine JL_guard_yes rfl rfl ?_
          refine JL_not rfl ?_
          rw [Bool.not_true]
          refine JL_pick_f rfl rfl ?_
          refine JL_done_up 168 [box _ _ [_, _, _, _, _, _], box _ _ [_, _, _, _, _, _], box _ _ [_, _, _, _, _, _], osl _ _ _ _ _ _] [_, _, _, _, _, _, _, _, _, _, _, _] rfl rfl (by simp only [upd_pend, upd_base, flatP, updV_zero, updV_succ]; rfl) rfl rfl ?_
          refine JC_false rfl ?_
          refine JC_skip ?_
          refine JE_then ?_
          refine JC_seq ?_
          refine JC_region ?_
          refine JL_loadA (vs := [_, _, _, _, _, _]) 0 ty28 rfl rfl ⟨rfl, rfl, rfl, rfl, rfl, rfl, trivial⟩ ?_
          refine JL_loadA (vs := [_, _, _, _, _, _]) 1 ty28 rfl rfl ⟨rfl, rfl, rfl, rfl, rfl, rfl, trivial⟩ ?_
          refine JL_callF' (Asks.cons (by first | exact holds_of_mem (by repeat (first | with_reducible exact mm0 | refine mmS ?_)) | (exact holds_of_own 3 rfl)) (Asks.cons (by first | exact holds_of_mem (by repeat (first | with_reducible exact mm0 | refine mmS ?_)) | (exact holds_of_own 3 rfl)) (Asks.cons (by first | exact holds_of_mem (by repeat (first | with_reducible exact mm0 | refine mmS ?_)) | (exact holds_of_own 3 rfl)) (Asks.cons (by first | exact holds_of_mem (by repeat (first | with_reducible exact mm0 | refine mmS ?_)) | (exact holds_of_own 3 rfl)) (Asks.cons (by first | exact holds_of_mem (by repeat (first | with_reducible exact mm0 | refine mmS ?_)) | (exact holds_of_own 3 rfl)) (Asks.cons (by first | exact holds_of_mem (by repeat (first | with_reducible exact mm0 | refine mmS ?_)) | (exact holds_of_own 3 rfl)) (Asks.cons (by first | exact holds_of_mem (by repeat (first | with_reducible exact mm0 | refine mmS ?_)) | (exact holds_of_own 3 rfl)) (Asks.cons (by first | exact holds_of_mem (by repeat (first | with_reducible exact mm0 | refine mmS ?_)) | (exact holds_of_own 3 rfl)) Asks.nil)))))))) (iplus_con (G1.mono (by decide)) (G2.mono (by decide)) (G3.mono (by decide)) (G4.mono (by decide))) rfl ca11 ⟨rfl, rfl, rfl⟩ ?_
          rintro _ _ ⟨ad62, cp62, be62, ce62, af62, cq62, bg62, cf62, rfl, rfl⟩
          refine JL_move rfl ?_
          refine JL_extract rfl rfl ?_
          refine JL_extract rfl rfl ?_
          refine JL_alloc z28 (fun b7 => ?_)
          refine JL_store (vs := [_, _, _, _, _, _]) 4 ty28 rfl rfl rfl (AllOne.cons rfl (AllOne.cons rfl (AllOne.cons rfl (AllOne.cons rfl (AllOne.cons rfl (AllOne.cons rfl AllOne.nil)))))) rfl (Nat.le_of_ble_eq_true rfl) ?_
          refine JL_assign rfl ?_
          refine JL_done_up 168 [box _ _ [_, _, _, _, _, _], box _ _ [_, _, _, _, _, _], box _ _ [_, _, _, _, _, _], osl _ _ _ _ _ _, box _ _ [_, _, _, _, _, _]] [_, _, _, _, _, _, _, _, _, _, _, _, _, _, _, _] rfl rfl (by simp only [upd_pend, upd_base, flatP, updV_zero, updV_succ]; rfl) rfl rfl ?_
          refine JC_seq ?_
          refine JC_region ?_
          refine JL_loadA (vs := [_, _, _, _, _, _]) 1 ty28 rfl rfl ⟨rfl, rfl, rfl, rfl, rfl, rfl, trivial⟩ ?_
          refine JL_loadA (vs := [_, _, _, _, _, _]) 0 ty28 rfl rfl ⟨rfl, rfl, rfl, rfl, rfl, rfl, trivial⟩ ?_
          refine JL_callF' (Asks.cons (by first | exact holds_of_mem (by repeat (first | with_reducible exact mm0 | refine mmS ?_)) | (exact holds_of_own 3 rfl)) (Asks.cons (by first | exact holds_of_mem (by repeat (first | with_reducible exact mm0 | refine mmS ?_)) | (exact holds_of_own 3 rfl)) (Asks.cons (by first | exact holds_of_mem (by repeat (first | with_reducible exact mm0 | refine mmS ?_)) | (exact holds_of_own 3 rfl)) (Asks.cons (by first | exact holds_of_mem (by repeat (first | with_reducible exact mm0 | refine mmS ?_)) | (exact holds_of_own 3 rfl)) (Asks.cons (by first | exact holds_of_mem (by repeat (first | with_reducible exact mm0 | refine mmS ?_)) | (exact holds_of_own 3 rfl)) (Asks.cons (by first | exact holds_of_mem (by repeat (first | with_reducible exact mm0 | refine mmS ?_)) | (exact holds_of_own 3 rfl)) (Asks.cons (by first | exact holds_of_mem (by repeat (first | with_reducible exact mm0 | refine mmS ?_)) | (exact holds_of_own 3 rfl)) (Asks.cons (by first | exact holds_of_mem (by repeat (first | with_reducible exact mm0 | refine mmS ?_)) | (exact holds_of_own 3 rfl)) Asks.nil)))))))) (iplus_con (G3.mono (by decide)) (G4.mono (by decide)) (G1.mono (by decide)) (G2.mono (by decide))) rfl ca11 ⟨rfl, rfl, rfl⟩ ?_
          rintro _ _ ⟨ad68, cp68, be68, ce68, af68, cq68, bg68, cf68, rfl, rfl⟩
          refine JL_move rfl ?_
          refine JL_extract rfl rfl ?_
          refine JL_extract rfl rfl ?_
          refine JL_alloc z28 (fun b9 => ?_)
          refine JL_store (vs := [_, _, _, _, _, _]) 5 ty28 rfl rfl rfl (AllOne.cons rfl (AllOne.cons rfl (AllOne.cons rfl (AllOne.cons rfl (AllOne.cons rfl (AllOne.cons rfl AllOne.nil)))))) rfl (Nat.le_of_ble_eq_true rfl) ?_
          refine JL_assign rfl ?_
          refine JL_done_up 168 [box _ _ [_, _, _, _, _, _], box _ _ [_, _, _, _, _, _], box _ _ [_, _, _, _, _, _], osl _ _ _ _ _ _, box _ _ [_, _, _, _, _, _], box _ _ [_, _, _, _, _, _]] [_, _, _, _, _, _, _, _, _, _, _, _, _, _, _, _, _, _, _, _] rfl rfl (by simp only [upd_pend, upd_base, flatP, updV_zero, updV_succ]; rfl) rfl rfl ?_
          refine JC_seq ?_
          refine JC_region ?_
          refine JL_loadA (vs := [_, _, _, _, _, _]) 1 ty28 rfl rfl ⟨rfl, rfl, rfl, rfl, rfl, rfl, trivial⟩ ?_
          refine JL_loadA (vs := [_, _, _, _, _, _]) 2 ty28 rfl rfl ⟨rfl, rfl, rfl, rfl, rfl, rfl, trivial⟩ ?_
          refine JL_callF' (Asks.cons (by first | exact holds_of_mem (by repeat (first | with_reducible exact mm0 | refine mmS ?_)) | (exact holds_of_own 3 rfl)) (Asks.cons (by first | exact holds_of_mem (by repeat (first | with_reducible exact mm0 | refine mmS ?_)) | (exact holds_of_own 3 rfl)) (Asks.cons (by first | exact holds_of_mem (by repeat (first | with_reducible exact mm0 | refine mmS ?_)) | (exact holds_of_own 3 rfl)) (Asks.cons (by first | exact holds_of_mem (by repeat (first | with_reducible exact mm0 | refine mmS ?_)) | (exact holds_of_own 3 rfl)) (Asks.cons (by first | exact holds_of_mem (by repeat (first | with_reducible exact mm0 | refine mmS ?_)) | (exact holds_of_own 3 rfl)) (Asks.cons (by first | exact holds_of_mem (by repeat (first | with_reducible exact mm0 | refine mmS ?_)) | (exact holds_of_own 3 rfl)) (Asks.cons (by first | exact holds_of_mem (by repeat (first | with_reducible exact mm0 | refine mmS ?_)) | (exact holds_of_own 3 rfl)) (Asks.cons (by first | exact holds_of_mem (by repeat (first | with_reducible exact mm0 | refine mmS ?_)) | (exact holds_of_own 3 rfl)) Asks.nil)))))))) (iplus_con (G3.mono (by decide)) (G4.mono (by decide)) (G5.mono (by decide)) (G6.mono (by decide))) rfl ca11 ⟨rfl, rfl, rfl⟩ ?_
          rintro _ _ ⟨ad74, cp74, be74, ce74, af74, cq74, bg74, cf74, rfl, rfl⟩
          refine JL_move rfl ?_
          refine JL_extract rfl rfl ?_
          refine JL_extract rfl rfl ?_
          refine JL_alloc z28 (fun b11 => ?_)
          refine JL_store (vs := [_, _, _, _, _, _]) 6 ty28 rfl rfl rfl (AllOne.cons rfl (AllOne.cons rfl (AllOne.cons rfl (AllOne.cons rfl (AllOne.cons rfl (AllOne.cons rfl AllOne.nil)))))) rfl (Nat.le_of_ble_eq_true rfl) ?_
          refine JL_assign rfl ?_
          refine JL_done_up 168 [box _ _ [_, _, _, _, _, _], box _ _ [_, _, _, _, _, _], box _ _ [_, _, _, _, _, _], osl _ _ _ _ _ _, box _ _ [_, _, _, _, _, _], box _ _ [_, _, _, _, _, _], box _ _ [_, _, _, _, _, _]] [_, _, _, _, _, _, _, _, _, _, _, _, _, _, _, _, _, _, _, _, _, _, _, _] rfl rfl (by simp only [upd_pend, upd_base, flatP, updV_zero, updV_succ]; rfl) rfl rfl ?_
          refine JC_seq ?_
          refine JC_region ?_
          refine JL_loadA (vs := [_, _, _, _, _, _]) 4 ty28 rfl rfl ⟨rfl, rfl, rfl, rfl, rfl, rfl, trivial⟩ ?_
          refine JL_loadA (vs := [_, _, _, _, _, _]) 2 ty28 rfl rfl ⟨rfl, rfl, rfl, rfl, rfl, rfl, trivial⟩ ?_
          refine JL_callF' (Asks.cons (by first | exact holds_of_mem (by repeat (first | with_reducible exact mm0 | refine mmS ?_)) | (exact holds_of_own 3 rfl)) (Asks.cons (by first | exact holds_of_mem (by repeat (first | with_reducible exact mm0 | refine mmS ?_)) | (exact holds_of_own 3 rfl)) (Asks.cons (by first | exact holds_of_mem (by repeat (first | with_reducible exact mm0 | refine mmS ?_)) | (exact holds_of_own 3 rfl)) (Asks.cons (by first | exact holds_of_mem (by repeat (first | with_reducible exact mm0 | refine mmS ?_)) | (exact holds_of_own 3 rfl)) (Asks.cons (by first | exact holds_of_mem (by repeat (first | with_reducible exact mm0 | refine mmS ?_)) | (exact holds_of_own 3 rfl)) (Asks.cons (by first | exact holds_of_mem (by repeat (first | with_reducible exact mm0 | refine mmS ?_)) | (exact holds_of_own 3 rfl)) (Asks.cons (by first | exact holds_of_mem (by repeat (first | with_reducible exact mm0 | refine mmS ?_)) | (exact holds_of_own 3 rfl)) (Asks.cons (by first | exact holds_of_mem (by repeat (first | with_reducible exact mm0 | refine mmS ?_)) | (exact holds_of_own 3 rfl)) Asks.nil)))))))) (iplus_con (FIn.of (o := onv (v2 (q1) (q2) (q3) (q4)) (q1 + q3)) (hAB1.mono (by decide))) (FIn.of (o := onv (v2 (q1) (q2) (q3) (q4)) (q2 + q4)) (hAB2.mono (by decide))) (G5.mono (by decide)) (G6.mono (by decide))) rfl ca11 ⟨rfl, rfl, rfl⟩ ?_
          rintro _ _ ⟨ad80, cp80, be80, ce80, af80, cq80, bg80, cf80, rfl, rfl⟩
          refine JL_move rfl ?_
          refine JL_extract rfl rfl ?_
          refine JL_extract rfl rfl ?_
          refine JL_alloc z28 (fun b13 => ?_)
          refine JL_store (vs := [_, _, _, _, _, _]) 7 ty28 rfl rfl rfl (AllOne.cons rfl (AllOne.cons rfl (AllOne.cons rfl (AllOne.cons rfl (AllOne.cons rfl (AllOne.cons rfl AllOne.nil)))))) rfl (Nat.le_of_ble_eq_true rfl) ?_
          refine JL_assign rfl ?_
          refine JL_done_up 168 [box _ _ [_, _, _, _, _, _], box _ _ [_, _, _, _, _, _], box _ _ [_, _, _, _, _, _], osl _ _ _ _ _ _, box _ _ [_, _, _, _, _, _], box _ _ [_, _, _, _, _, _], box _ _ [_, _, _, _, _, _], box _ _ [_, _, _, _, _, _]] [_, _, _, _, _, _, _, _, _, _, _, _, _, _, _, _, _, _, _, _, _, _, _, _, _, _, _, _] rfl rfl (by simp only [upd_pend, upd_base, flatP, updV_zero, updV_succ]; rfl) rfl rfl ?_
          refine JC_seq ?_
          refine JC_region ?_
          refine JL_loadA (vs := [_, _, _, _, _, _]) 0 ty28 rfl rfl ⟨rfl, rfl, rfl, rfl, rfl, rfl, trivial⟩ ?_
          refine JL_loadA (vs := [_, _, _, _, _, _]) 6 ty28 rfl rfl ⟨rfl, rfl, rfl, rfl, rfl, rfl, trivial⟩ ?_
          refine JL_callF' (Asks.cons (by first | exact holds_of_mem (by repeat (first | with_reducible exact mm0 | refine mmS ?_)) | (exact holds_of_own 3 rfl)) (Asks.cons (by first | exact holds_of_mem (by repeat (first | with_reducible exact mm0 | refine mmS ?_)) | (exact holds_of_own 3 rfl)) (Asks.cons (by first | exact holds_of_mem (by repeat (first | with_reducible exact mm0 | refine mmS ?_)) | (exact holds_of_own 3 rfl)) (Asks.cons (by first | exact holds_of_mem (by repeat (first | with_reducible exact mm0 | refine mmS ?_)) | (exact holds_of_own 3 rfl)) (Asks.cons (by first | exact holds_of_mem (by repeat (first | with_reducible exact mm0 | refine mmS ?_)) | (exact holds_of_own 3 rfl)) (Asks.cons (by first | exact holds_of_mem (by repeat (first | with_reducible exact mm0 | refine mmS ?_)) | (exact holds_of_own 3 rfl)) (Asks.cons (by first | exact holds_of_mem (by repeat (first | with_reducible exact mm0 | refine mmS ?_)) | (exact holds_of_own 3 rfl)) (Asks.cons (by first | exact holds_of_mem (by repeat (first | with_reducible exact mm0 | refine mmS ?_)) | (exact holds_of_own 3 rfl)) Asks.nil)))))))) (iplus_con (G1.mono (by decide)) (G2.mono (by decide)) (FIn.of (o := onv (v2 (q3) (q4) (q5) (q6)) (q3 + q5)) (hBC1.mono (by decide))) (FIn.of (o := onv (v2 (q3) (q4) (q5) (q6)) (q4 + q6)) (hBC2.mono (by decide)))) rfl ca11 ⟨rfl, rfl, rfl⟩ ?_
          rintro _ _ ⟨ad86, cp86, be86, ce86, af86, cq86, bg86, cf86, rfl, rfl⟩
          refine JL_move rfl ?_
          refine JL_extract rfl rfl ?_
          refine JL_extract rfl rfl ?_
          refine JL_alloc z28 (fun b15 => ?_)
          refine JL_store (vs := [_, _, _, _, _, _]) 8 ty28 rfl rfl rfl (AllOne.cons rfl (AllOne.cons rfl (AllOne.cons rfl (AllOne.cons rfl (AllOne.cons rfl (AllOne.cons rfl AllOne.nil)))))) rfl (Nat.le_of_ble_eq_true rfl) ?_
          refine JL_assign rfl ?_
          refine JL_done_up 168 [box _ _ [_, _, _, _, _, _], box _ _ [_, _, _, _, _, _], box _ _ [_, _, _, _, _, _], osl _ _ _ _ _ _, box _ _ [_, _, _, _, _, _], box _ _ [_, _, _, _, _, _], box _ _ [_, _, _, _, _, _], box _ _ [_, _, _, _, _, _], box _ _ [_, _, _, _, _, _]] [_, _, _, _, _, _, _, _, _, _, _, _, _, _, _, _, _, _, _, _, _, _, _, _, _, _, _, _, _, _, _, _] rfl rfl (by simp only [upd_pend, upd_base, flatP, updV_zero, updV_succ]; rfl) rfl rfl ?_
          refine JC_seq ?_
          refine JC_region ?_
          refine JL_loadA (vs := [_, _, _, _, _, _]) 0 ty28 rfl rfl ⟨rfl, rfl, rfl, rfl, rfl, rfl, trivial⟩ ?_
          refine JL_loadA (vs := [_, _, _, _, _, _]) 1 ty28 rfl rfl ⟨rfl, rfl, rfl, rfl, rfl, rfl, trivial⟩ ?_
          refine JL_callF' (Asks.cons (by first | exact holds_of_mem (by repeat (first | with_reducible exact mm0 | refine mmS ?_)) | (exact holds_of_own 3 rfl)) (Asks.cons (by first | exact holds_of_mem (by repeat (first | with_reducible exact mm0 | refine mmS ?_)) | (exact holds_of_own 3 rfl)) (Asks.cons (by first | exact holds_of_mem (by repeat (first | with_reducible exact mm0 | refine mmS ?_)) | (exact holds_of_own 3 rfl)) (Asks.cons (by first | exact holds_of_mem (by repeat (first | with_reducible exact mm0 | refine mmS ?_)) | (exact holds_of_own 3 rfl)) (Asks.cons (by first | exact holds_of_mem (by repeat (first | with_reducible exact mm0 | refine mmS ?_)) | (exact holds_of_own 3 rfl)) (Asks.cons (by first | exact holds_of_mem (by repeat (first | with_reducible exact mm0 | refine mmS ?_)) | (exact holds_of_own 3 rfl)) (Asks.cons (by first | exact holds_of_mem (by repeat (first | with_reducible exact mm0 | refine mmS ?_)) | (exact holds_of_own 3 rfl)) (Asks.cons (by first | exact holds_of_mem (by repeat (first | with_reducible exact mm0 | refine mmS ?_)) | (exact holds_of_own 3 rfl)) Asks.nil)))))))) (itimes_con (G1.mono (by decide)) (G2.mono (by decide)) (G3.mono (by decide)) (G4.mono (by decide))) rfl ca12 ⟨rfl, rfl, rfl⟩ ?_
          rintro _ _ ⟨ad92, cp92, be92, ce92, af92, cq92, bg92, cf92, rfl, rfl⟩
          refine JL_move rfl ?_
          refine JL_extract rfl rfl ?_
          refine JL_extract rfl rfl ?_
          refine JL_alloc z28 (fun b17 => ?_)
          refine JL_store (vs := [_, _, _, _, _, _]) 9 ty28 rfl rfl rfl (AllOne.cons rfl (AllOne.cons rfl (AllOne.cons rfl (AllOne.cons rfl (AllOne.cons rfl (AllOne.cons rfl AllOne.nil)))))) rfl (Nat.le_of_ble_eq_true rfl) ?_
          refine JL_assign rfl ?_
          refine JL_done_up 168 [box _ _ [_, _, _, _, _, _], box _ _ [_, _, _, _, _, _], box _ _ [_, _, _, _, _, _], osl _ _ _ _ _ _, box _ _ [_, _, _, _, _, _], box _ _ [_, _, _, _, _, _], box _ _ [_, _, _, _, _, _], box _ _ [_, _, _, _, _, _], box _ _ [_, _, _, _, _, _], box _ _ [_, _, _, _, _, _]] [_, _, _, _, _, _, _, _, _, _, _, _, _, _, _, _, _, _, _, _, _, _, _, _, _, _, _, _, _, _, _, _, _, _, _, _] rfl rfl (by simp only [upd_pend, upd_base, flatP, updV_zero, updV_succ]; rfl) rfl rfl ?_
          refine JC_seq ?_
          refine JC_region ?_
          refine JL_loadA (vs := [_, _, _, _, _, _]) 1 ty28 rfl rfl ⟨rfl, rfl, rfl, rfl, rfl, rfl, trivial⟩ ?_
          refine JL_loadA (vs := [_, _, _, _, _, _]) 0 ty28 rfl rfl ⟨rfl, rfl, rfl, rfl, rfl, rfl, trivial⟩ ?_
          refine JL_callF' (Asks.cons (by first | exact holds_of_mem (by repeat (first | with_reducible exact mm0 | refine mmS ?_)) | (exact holds_of_own 3 rfl)) (Asks.cons (by first | exact holds_of_mem (by repeat (first | with_reducible exact mm0 | refine mmS ?_)) | (exact holds_of_own 3 rfl)) (Asks.cons (by first | exact holds_of_mem (by repeat (first | with_reducible exact mm0 | refine mmS ?_)) | (exact holds_of_own 3 rfl)) (Asks.cons (by first | exact holds_of_mem (by repeat (first | with_reducible exact mm0 | refine mmS ?_)) | (exact holds_of_own 3 rfl)) (Asks.cons (by first | exact holds_of_mem (by repeat (first | with_reducible exact mm0 | refine mmS ?_)) | (exact holds_of_own 3 rfl)) (Asks.cons (by first | exact holds_of_mem (by repeat (first | with_reducible exact mm0 | refine mmS ?_)) | (exact holds_of_own 3 rfl)) (Asks.cons (by first | exact holds_of_mem (by repeat (first | with_reducible exact mm0 | refine mmS ?_)) | (exact holds_of_own 3 rfl)) (Asks.cons (by first | exact holds_of_mem (by repeat (first | with_reducible exact mm0 | refine mmS ?_)) | (exact holds_of_own 3 rfl)) Asks.nil)))))))) (itimes_con (G3.mono (by decide)) (G4.mono (by decide)) (G1.mono (by decide)) (G2.mono (by decide))) rfl ca12 ⟨rfl, rfl, rfl⟩ ?_
          rintro _ _ ⟨ad98, cp98, be98, ce98, af98, cq98, bg98, cf98, rfl, rfl⟩
          refine JL_move rfl ?_
          refine JL_extract rfl rfl ?_
          refine JL_extract rfl rfl ?_
          refine JL_alloc z28 (fun b19 => ?_)
          refine JL_store (vs := [_, _, _, _, _, _]) 10 ty28 rfl rfl rfl (AllOne.cons rfl (AllOne.cons rfl (AllOne.cons rfl (AllOne.cons rfl (AllOne.cons rfl (AllOne.cons rfl AllOne.nil)))))) rfl (Nat.le_of_ble_eq_true rfl) ?_
          refine JL_assign rfl ?_
          refine JL_done_up 168 [box _ _ [_, _, _, _, _, _], box _ _ [_, _, _, _, _, _], box _ _ [_, _, _, _, _, _], osl _ _ _ _ _ _, box _ _ [_, _, _, _, _, _], box _ _ [_, _, _, _, _, _], box _ _ [_, _, _, _, _, _], box _ _ [_, _, _, _, _, _], box _ _ [_, _, _, _, _, _], box _ _ [_, _, _, _, _, _], box _ _ [_, _, _, _, _, _]] [_, _, _, _, _, _, _, _, _, _, _, _, _, _, _, _, _, _, _, _, _, _, _, _, _, _, _, _, _, _, _, _, _, _, _, _, _, _, _, _] rfl rfl (by simp only [upd_pend, upd_base, flatP, updV_zero, updV_succ]; rfl) rfl rfl ?_
          refine JC_seq ?_
          refine JC_region ?_
          refine JL_loadA (vs := [_, _, _, _, _, _]) 1 ty28 rfl rfl ⟨rfl, rfl, rfl, rfl, rfl, rfl, trivial⟩ ?_
          refine JL_loadA (vs := [_, _, _, _, _, _]) 2 ty28 rfl rfl ⟨rfl, rfl, rfl, rfl, rfl, rfl, trivial⟩ ?_
          refine JL_callF' (Asks.cons (by first | exact holds_of_mem (by repeat (first | with_reducible exact mm0 | refine mmS ?_)) | (exact holds_of_own 3 rfl)) (Asks.cons (by first | exact holds_of_mem (by repeat (first | with_reducible exact mm0 | refine mmS ?_)) | (exact holds_of_own 3 rfl)) (Asks.cons (by first | exact holds_of_mem (by repeat (first | with_reducible exact mm0 | refine mmS ?_)) | (exact holds_of_own 3 rfl)) (Asks.cons (by first | exact holds_of_mem (by repeat (first | with_reducible exact mm0 | refine mmS ?_)) | (exact holds_of_own 3 rfl)) (Asks.cons (by first | exact holds_of_mem (by repeat (first | with_reducible exact mm0 | refine mmS ?_)) | (exact holds_of_own 3 rfl)) (Asks.cons (by first | exact holds_of_mem (by repeat (first | with_reducible exact mm0 | refine mmS ?_)) | (exact holds_of_own 3 rfl)) (Asks.cons (by first | exact holds_of_mem (by repeat (first | with_reducible exact mm0 | refine mmS ?_)) | (exact holds_of_own 3 rfl)) (Asks.cons (by first | exact holds_of_mem (by repeat (first | with_reducible exact mm0 | refine mmS ?_)) | (exact holds_of_own 3 rfl)) Asks.nil)))))))) (itimes_con (G3.mono (by decide)) (G4.mono (by decide)) (G5.mono (by decide)) (G6.mono (by decide))) rfl ca12 ⟨rfl, rfl, rfl⟩ ?_
          rintro _ _ ⟨ad104, cp104, be104, ce104, af104, cq104, bg104, cf104, rfl, rfl⟩
          refine JL_move rfl ?_
          refine JL_extract rfl rfl ?_
          refine JL_extract rfl rfl ?_
          refine JL_alloc z28 (fun b21 => ?_)
          refine JL_store (vs := [_, _, _, _, _, _]) 11 ty28 rfl rfl rfl (AllOne.cons rfl (AllOne.cons rfl (AllOne.cons rfl (AllOne.cons rfl (AllOne.cons rfl (AllOne.cons rfl AllOne.nil)))))) rfl (Nat.le_of_ble_eq_true rfl) ?_
          refine JL_assign rfl ?_
          refine JL_done_up 168 [box _ _ [_, _, _, _, _, _], box _ _ [_, _, _, _, _, _], box _ _ [_, _, _, _, _, _], osl _ _ _ _ _ _, box _ _ [_, _, _, _, _, _], box _ _ [_, _, _, _, _, _], box _ _ [_, _, _, _, _, _], box _ _ [_, _, _, _, _, _], box _ _ [_, _, _, _, _, _], box _ _ [_, _, _, _, _, _], box _ _ [_, _, _, _, _, _], box _ _ [_, _, _, _, _, _]] [_, _, _, _, _, _, _, _, _, _, _, _, _, _, _, _, _, _, _, _, _, _, _, _, _, _, _, _, _, _, _, _, _, _, _, _, _, _, _, _, _, _, _, _] rfl rfl (by simp only [upd_pend, upd_base, flatP, updV_zero, updV_succ]; rfl) rfl rfl ?_
          refine JC_seq ?_
          refine JC_region ?_
          refine JL_loadA (vs := [_, _, _, _, _, _]) 9 ty28 rfl rfl ⟨rfl, rfl, rfl, rfl, rfl, rfl, trivial⟩ ?_
          refine JL_loadA (vs := [_, _, _, _, _, _]) 2 ty28 rfl rfl ⟨rfl, rfl, rfl, rfl, rfl, rfl, trivial⟩ ?_
          refine JL_callF' (Asks.cons (by first | exact holds_of_mem (by repeat (first | with_reducible exact mm0 | refine mmS ?_)) | (exact holds_of_own 3 rfl)) (Asks.cons (by first | exact holds_of_mem (by repeat (first | with_reducible exact mm0 | refine mmS ?_)) | (exact holds_of_own 3 rfl)) (Asks.cons (by first | exact holds_of_mem (by repeat (first | with_reducible exact mm0 | refine mmS ?_)) | (exact holds_of_own 3 rfl)) (Asks.cons (by first | exact holds_of_mem (by repeat (first | with_reducible exact mm0 | refine mmS ?_)) | (exact holds_of_own 3 rfl)) (Asks.cons (by first | exact holds_of_mem (by repeat (first | with_reducible exact mm0 | refine mmS ?_)) | (exact holds_of_own 3 rfl)) (Asks.cons (by first | exact holds_of_mem (by repeat (first | with_reducible exact mm0 | refine mmS ?_)) | (exact holds_of_own 3 rfl)) (Asks.cons (by first | exact holds_of_mem (by repeat (first | with_reducible exact mm0 | refine mmS ?_)) | (exact holds_of_own 3 rfl)) (Asks.cons (by first | exact holds_of_mem (by repeat (first | with_reducible exact mm0 | refine mmS ?_)) | (exact holds_of_own 3 rfl)) Asks.nil)))))))) (itimes_con (FIn.of (o := onv (v2 (q1) (q2) (q3) (q4)) (q1 * q3)) (hXY1.mono (by decide))) (FIn.of (o := onv (v2 (q1) (q2) (q3) (q4)) (q2 * q4)) (hXY2.mono (by decide))) (G5.mono (by decide)) (G6.mono (by decide))) rfl ca12 ⟨rfl, rfl, rfl⟩ ?_
          rintro _ _ ⟨ad110, cp110, be110, ce110, af110, cq110, bg110, cf110, rfl, rfl⟩
          refine JL_move rfl ?_
          refine JL_extract rfl rfl ?_
          refine JL_extract rfl rfl ?_
          refine JL_alloc z28 (fun b23 => ?_)
          refine JL_store (vs := [_, _, _, _, _, _]) 12 ty28 rfl rfl rfl (AllOne.cons rfl (AllOne.cons rfl (AllOne.cons rfl (AllOne.cons rfl (AllOne.cons rfl (AllOne.cons rfl AllOne.nil)))))) rfl (Nat.le_of_ble_eq_true rfl) ?_
          refine JL_assign rfl ?_
          refine JL_done_up 168 [box _ _ [_, _, _, _, _, _], box _ _ [_, _, _, _, _, _], box _ _ [_, _, _, _, _, _], osl _ _ _ _ _ _, box _ _ [_, _, _, _, _, _], box _ _ [_, _, _, _, _, _], box _ _ [_, _, _, _, _, _], box _ _ [_, _, _, _, _, _], box _ _ [_, _, _, _, _, _], box _ _ [_, _, _, _, _, _], box _ _ [_, _, _, _, _, _], box _ _ [_, _, _, _, _, _], box _ _ [_, _, _, _, _, _]] [_, _, _, _, _, _, _, _, _, _, _, _, _, _, _, _, _, _, _, _, _, _, _, _, _, _, _, _, _, _, _, _, _, _, _, _, _, _, _, _, _, _, _, _, _, _, _, _] rfl rfl (by simp only [upd_pend, upd_base, flatP, updV_zero, updV_succ]; rfl) rfl rfl ?_
          refine JC_seq ?_
          refine JC_region ?_
          refine JL_loadA (vs := [_, _, _, _, _, _]) 0 ty28 rfl rfl ⟨rfl, rfl, rfl, rfl, rfl, rfl, trivial⟩ ?_
          refine JL_loadA (vs := [_, _, _, _, _, _]) 11 ty28 rfl rfl ⟨rfl, rfl, rfl, rfl, rfl, rfl, trivial⟩ ?_
          refine JL_callF' (Asks.cons (by first | exact holds_of_mem (by repeat (first | with_reducible exact mm0 | refine mmS ?_)) | (exact holds_of_own 3 rfl)) (Asks.cons (by first | exact holds_of_mem (by repeat (first | with_reducible exact mm0 | refine mmS ?_)) | (exact holds_of_own 3 rfl)) (Asks.cons (by first | exact holds_of_mem (by repeat (first | with_reducible exact mm0 | refine mmS ?_)) | (exact holds_of_own 3 rfl)) (Asks.cons (by first | exact holds_of_mem (by repeat (first | with_reducible exact mm0 | refine mmS ?_)) | (exact holds_of_own 3 rfl)) (Asks.cons (by first | exact holds_of_mem (by repeat (first | with_reducible exact mm0 | refine mmS ?_)) | (exact holds_of_own 3 rfl)) (Asks.cons (by first | exact holds_of_mem (by repeat (first | with_reducible exact mm0 | refine mmS ?_)) | (exact holds_of_own 3 rfl)) (Asks.cons (by first | exact holds_of_mem (by repeat (first | with_reducible exact mm0 | refine mmS ?_)) | (exact holds_of_own 3 rfl)) (Asks.cons (by first | exact holds_of_mem (by repeat (first | with_reducible exact mm0 | refine mmS ?_)) | (exact holds_of_own 3 rfl)) Asks.nil)))))))) (itimes_con (G1.mono (by decide)) (G2.mono (by decide)) (FIn.of (o := onv (v2 (q3) (q4) (q5) (q6)) (q3 * q5)) (hYZ1.mono (by decide))) (FIn.of (o := onv (v2 (q3) (q4) (q5) (q6)) (q4 * q6)) (hYZ2.mono (by decide)))) rfl ca12 ⟨rfl, rfl, rfl⟩ ?_
          rintro _ _ ⟨ad116, cp116, be116, ce116, af116, cq116, bg116, cf116, rfl, rfl⟩
          refine JL_move rfl ?_
          refine JL_extract rfl rfl ?_
          refine JL_extract rfl rfl ?_
          refine JL_alloc z28 (fun b25 => ?_)
          refine JL_store (vs := [_, _, _, _, _, _]) 13 ty28 rfl rfl rfl (AllOne.cons rfl (AllOne.cons rfl (AllOne.cons rfl (AllOne.cons rfl (AllOne.cons rfl (AllOne.cons rfl AllOne.nil)))))) rfl (Nat.le_of_ble_eq_true rfl) ?_
          refine JL_assign rfl ?_
          refine JL_done_up 168 [box _ _ [_, _, _, _, _, _], box _ _ [_, _, _, _, _, _], box _ _ [_, _, _, _, _, _], osl _ _ _ _ _ _, box _ _ [_, _, _, _, _, _], box _ _ [_, _, _, _, _, _], box _ _ [_, _, _, _, _, _], box _ _ [_, _, _, _, _, _], box _ _ [_, _, _, _, _, _], box _ _ [_, _, _, _, _, _], box _ _ [_, _, _, _, _, _], box _ _ [_, _, _, _, _, _], box _ _ [_, _, _, _, _, _], box _ _ [_, _, _, _, _, _]] [_, _, _, _, _, _, _, _, _, _, _, _, _, _, _, _, _, _, _, _, _, _, _, _, _, _, _, _, _, _, _, _, _, _, _, _, _, _, _, _, _, _, _, _, _, _, _, _, _, _, _, _] rfl rfl (by simp only [upd_pend, upd_base, flatP, updV_zero, updV_succ]; rfl) rfl rfl ?_
          refine JC_seq ?_
          refine JC_region ?_
          refine JL_loadA (vs := [_, _, _, _, _, _]) 0 ty28 rfl rfl ⟨rfl, rfl, rfl, rfl, rfl, rfl, trivial⟩ ?_
          refine JL_loadA (vs := [_, _, _, _, _, _]) 2 ty28 rfl rfl ⟨rfl, rfl, rfl, rfl, rfl, rfl, trivial⟩ ?_
          refine JL_callF' (Asks.cons (by first | exact holds_of_mem (by repeat (first | with_reducible exact mm0 | refine mmS ?_)) | (exact holds_of_own 3 rfl)) (Asks.cons (by first | exact holds_of_mem (by repeat (first | with_reducible exact mm0 | refine mmS ?_)) | (exact holds_of_own 3 rfl)) (Asks.cons (by first | exact holds_of_mem (by repeat (first | with_reducible exact mm0 | refine mmS ?_)) | (exact holds_of_own 3 rfl)) (Asks.cons (by first | exact holds_of_mem (by repeat (first | with_reducible exact mm0 | refine mmS ?_)) | (exact holds_of_own 3 rfl)) (Asks.cons (by first | exact holds_of_mem (by repeat (first | with_reducible exact mm0 | refine mmS ?_)) | (exact holds_of_own 3 rfl)) (Asks.cons (by first | exact holds_of_mem (by repeat (first | with_reducible exact mm0 | refine mmS ?_)) | (exact holds_of_own 3 rfl)) (Asks.cons (by first | exact holds_of_mem (by repeat (first | with_reducible exact mm0 | refine mmS ?_)) | (exact holds_of_own 3 rfl)) (Asks.cons (by first | exact holds_of_mem (by repeat (first | with_reducible exact mm0 | refine mmS ?_)) | (exact holds_of_own 3 rfl)) Asks.nil)))))))) (itimes_con (G1.mono (by decide)) (G2.mono (by decide)) (G5.mono (by decide)) (G6.mono (by decide))) rfl ca12 ⟨rfl, rfl, rfl⟩ ?_
          rintro _ _ ⟨ad122, cp122, be122, ce122, af122, cq122, bg122, cf122, rfl, rfl⟩
          refine JL_move rfl ?_
          refine JL_extract rfl rfl ?_
          refine JL_extract rfl rfl ?_
          refine JL_alloc z28 (fun b27 => ?_)
          refine JL_store (vs := [_, _, _, _, _, _]) 14 ty28 rfl rfl rfl (AllOne.cons rfl (AllOne.cons rfl (AllOne.cons rfl (AllOne.cons rfl (AllOne.cons rfl (AllOne.cons rfl AllOne.nil)))))) rfl (Nat.le_of_ble_eq_true rfl) ?_
          refine JL_assign rfl ?_
          refine JL_done_up 168 [box _ _ [_, _, _, _, _, _], box _ _ [_, _, _, _, _, _], box _ _ [_, _, _, _, _, _], osl _ _ _ _ _ _, box _ _ [_, _, _, _, _, _], box _ _ [_, _, _, _, _, _], box _ _ [_, _, _, _, _, _], box _ _ [_, _, _, _, _, _], box _ _ [_, _, _, _, _, _], box _ _ [_, _, _, _, _, _], box _ _ [_, _, _, _, _, _], box _ _ [_, _, _, _, _, _], box _ _ [_, _, _, _, _, _], box _ _ [_, _, _, _, _, _], box _ _ [_, _, _, _, _, _]] [_, _, _, _, _, _, _, _, _, _, _, _, _, _, _, _, _, _, _, _, _, _, _, _, _, _, _, _, _, _, _, _, _, _, _, _, _, _, _, _, _, _, _, _, _, _, _, _, _, _, _, _, _, _, _, _] rfl rfl (by simp only [upd_pend, upd_base, flatP, updV_zero, updV_succ]; rfl) rfl rfl ?_
          refine JC_seq ?_
          refine JC_region ?_
          refine JL_loadA (vs := [_, _, _, _, _, _]) 0 ty28 rfl rfl ⟨rfl, rfl, rfl, rfl, rfl, rfl, trivial⟩ ?_
          refine JL_loadA (vs := [_, _, _, _, _, _]) 6 ty28 rfl rfl ⟨rfl, rfl, rfl, rfl, rfl, rfl, trivial⟩ ?_
          refine JL_callF' (Asks.cons (by first | exact holds_of_mem (by repeat (first | with_reducible exact mm0 | refine mmS ?_)) | (exact holds_of_own 3 rfl)) (Asks.cons (by first | exact holds_of_mem (by repeat (first | with_reducible exact mm0 | refine mmS ?_)) | (exact holds_of_own 3 rfl)) (Asks.cons (by first | exact holds_of_mem (by repeat (first | with_reducible exact mm0 | refine mmS ?_)) | (exact holds_of_own 3 rfl)) (Asks.cons (by first | exact holds_of_mem (by repeat (first | with_reducible exact mm0 | refine mmS ?_)) | (exact holds_of_own 3 rfl)) (Asks.cons (by first | exact holds_of_mem (by repeat (first | with_reducible exact mm0 | refine mmS ?_)) | (exact holds_of_own 3 rfl)) (Asks.cons (by first | exact holds_of_mem (by repeat (first | with_reducible exact mm0 | refine mmS ?_)) | (exact holds_of_own 3 rfl)) (Asks.cons (by first | exact holds_of_mem (by repeat (first | with_reducible exact mm0 | refine mmS ?_)) | (exact holds_of_own 3 rfl)) (Asks.cons (by first | exact holds_of_mem (by repeat (first | with_reducible exact mm0 | refine mmS ?_)) | (exact holds_of_own 3 rfl)) Asks.nil)))))))) (itimes_con (G1.mono (by decide)) (G2.mono (by decide)) (FIn.of (o := onv (v2 (q3) (q4) (q5) (q6)) (q3 + q5)) (hBC1.mono (by decide))) (FIn.of (o := onv (v2 (q3) (q4) (q5) (q6)) (q4 + q6)) (hBC2.mono (by decide)))) rfl ca12 ⟨rfl, rfl, rfl⟩ ?_
          rintro _ _ ⟨ad128, cp128, be128, ce128, af128, cq128, bg128, cf128, rfl, rfl⟩
          refine JL_move rfl ?_
          refine JL_extract rfl rfl ?_
          refine JL_extract rfl rfl ?_
          refine JL_alloc z28 (fun b29 => ?_)
          refine JL_store (vs := [_, _, _, _, _, _]) 15 ty28 rfl rfl rfl (AllOne.cons rfl (AllOne.cons rfl (AllOne.cons rfl (AllOne.cons rfl (AllOne.cons rfl (AllOne.cons rfl AllOne.nil)))))) rfl (Nat.le_of_ble_eq_true rfl) ?_
          refine JL_assign rfl ?_
          refine JL_done_up 168 [box _ _ [_, _, _, _, _, _], box _ _ [_, _, _, _, _, _], box _ _ [_, _, _, _, _, _], osl _ _ _ _ _ _, box _ _ [_, _, _, _, _, _], box _ _ [_, _, _, _, _, _], box _ _ [_, _, _, _, _, _], box _ _ [_, _, _, _, _, _], box _ _ [_, _, _, _, _, _], box _ _ [_, _, _, _, _, _], box _ _ [_, _, _, _, _, _], box _ _ [_, _, _, _, _, _], box _ _ [_, _, _, _, _, _], box _ _ [_, _, _, _, _, _], box _ _ [_, _, _, _, _, _], box _ _ [_, _, _, _, _, _]] [_, _, _, _, _, _, _, _, _, _, _, _, _, _, _, _, _, _, _, _, _, _, _, _, _, _, _, _, _, _, _, _, _, _, _, _, _, _, _, _, _, _, _, _, _, _, _, _, _, _, _, _, _, _, _, _, _, _, _, _] rfl rfl (by simp only [upd_pend, upd_base, flatP, updV_zero, updV_succ]; rfl) rfl rfl ?_
          refine JC_seq ?_
          refine JC_region ?_
          refine JL_loadA (vs := [_, _, _, _, _, _]) 9 ty28 rfl rfl ⟨rfl, rfl, rfl, rfl, rfl, rfl, trivial⟩ ?_
          refine JL_loadA (vs := [_, _, _, _, _, _]) 14 ty28 rfl rfl ⟨rfl, rfl, rfl, rfl, rfl, rfl, trivial⟩ ?_
          refine JL_callF' (Asks.cons (by first | exact holds_of_mem (by repeat (first | with_reducible exact mm0 | refine mmS ?_)) | (exact holds_of_own 3 rfl)) (Asks.cons (by first | exact holds_of_mem (by repeat (first | with_reducible exact mm0 | refine mmS ?_)) | (exact holds_of_own 3 rfl)) (Asks.cons (by first | exact holds_of_mem (by repeat (first | with_reducible exact mm0 | refine mmS ?_)) | (exact holds_of_own 3 rfl)) (Asks.cons (by first | exact holds_of_mem (by repeat (first | with_reducible exact mm0 | refine mmS ?_)) | (exact holds_of_own 3 rfl)) (Asks.cons (by first | exact holds_of_mem (by repeat (first | with_reducible exact mm0 | refine mmS ?_)) | (exact holds_of_own 3 rfl)) (Asks.cons (by first | exact holds_of_mem (by repeat (first | with_reducible exact mm0 | refine mmS ?_)) | (exact holds_of_own 3 rfl)) (Asks.cons (by first | exact holds_of_mem (by repeat (first | with_reducible exact mm0 | refine mmS ?_)) | (exact holds_of_own 3 rfl)) (Asks.cons (by first | exact holds_of_mem (by repeat (first | with_reducible exact mm0 | refine mmS ?_)) | (exact holds_of_own 3 rfl)) Asks.nil)))))))) (iplus_con (FIn.of (o := onv (v2 (q1) (q2) (q3) (q4)) (q1 * q3)) (hXY1.mono (by decide))) (FIn.of (o := onv (v2 (q1) (q2) (q3) (q4)) (q2 * q4)) (hXY2.mono (by decide))) (FIn.of (o := onv (v2 (q1) (q2) (q5) (q6)) (q1 * q5)) (hXZ1.mono (by decide))) (FIn.of (o := onv (v2 (q1) (q2) (q5) (q6)) (q2 * q6)) (hXZ2.mono (by decide)))) rfl ca11 ⟨rfl, rfl, rfl⟩ ?_
          rintro _ _ ⟨ad134, cp134, be134, ce134, af134, cq134, bg134, cf134, rfl, rfl⟩
          refine JL_move rfl ?_
          refine JL_extract rfl rfl ?_
          refine JL_extract rfl rfl ?_
          refine JL_alloc z28 (fun b31 => ?_)
          refine JL_store (vs := [_, _, _, _, _, _]) 16 ty28 rfl rfl rfl (AllOne.cons rfl (AllOne.cons rfl (AllOne.cons rfl (AllOne.cons rfl (AllOne.cons rfl (AllOne.cons rfl AllOne.nil)))))) rfl (Nat.le_of_ble_eq_true rfl) ?_
          refine JL_assign rfl ?_
          refine JL_done_up 168 [box _ _ [_, _, _, _, _, _], box _ _ [_, _, _, _, _, _], box _ _ [_, _, _, _, _, _], osl _ _ _ _ _ _, box _ _ [_, _, _, _, _, _], box _ _ [_, _, _, _, _, _], box _ _ [_, _, _, _, _, _], box _ _ [_, _, _, _, _, _], box _ _ [_, _, _, _, _, _], box _ _ [_, _, _, _, _, _], box _ _ [_, _, _, _, _, _], box _ _ [_, _, _, _, _, _], box _ _ [_, _, _, _, _, _], box _ _ [_, _, _, _, _, _], box _ _ [_, _, _, _, _, _], box _ _ [_, _, _, _, _, _], box _ _ [_, _, _, _, _, _]] [_, _, _, _, _, _, _, _, _, _, _, _, _, _, _, _, _, _, _, _, _, _, _, _, _, _, _, _, _, _, _, _, _, _, _, _, _, _, _, _, _, _, _, _, _, _, _, _, _, _, _, _, _, _, _, _, _, _, _, _, _, _, _, _] rfl rfl (by simp only [upd_pend, upd_base, flatP, updV_zero, updV_succ]; rfl) rfl rfl ?_
          refine JC_seq ?_
          refine JC_region ?_
          refine JL_loadA (vs := [_, _, _, _, _, _]) 4 ty28 rfl rfl ⟨rfl, rfl, rfl, rfl, rfl, rfl, trivial⟩ ?_
          refine JL_loadA (vs := [_, _, _, _, _, _]) 5 ty28 rfl rfl ⟨rfl, rfl, rfl, rfl, rfl, rfl, trivial⟩ ?_
          refine JL_callF' (Asks.cons (by first | exact holds_of_mem (by repeat (first | with_reducible exact mm0 | refine mmS ?_)) | (exact holds_of_own 3 rfl)) (Asks.cons (by first | exact holds_of_mem (by repeat (first | with_reducible exact mm0 | refine mmS ?_)) | (exact holds_of_own 3 rfl)) (Asks.cons (by first | exact holds_of_mem (by repeat (first | with_reducible exact mm0 | refine mmS ?_)) | (exact holds_of_own 3 rfl)) (Asks.cons (by first | exact holds_of_mem (by repeat (first | with_reducible exact mm0 | refine mmS ?_)) | (exact holds_of_own 3 rfl)) (Asks.cons (by first | exact holds_of_mem (by repeat (first | with_reducible exact mm0 | refine mmS ?_)) | (exact holds_of_own 3 rfl)) (Asks.cons (by first | exact holds_of_mem (by repeat (first | with_reducible exact mm0 | refine mmS ?_)) | (exact holds_of_own 3 rfl)) (Asks.cons (by first | exact holds_of_mem (by repeat (first | with_reducible exact mm0 | refine mmS ?_)) | (exact holds_of_own 3 rfl)) (Asks.cons (by first | exact holds_of_mem (by repeat (first | with_reducible exact mm0 | refine mmS ?_)) | (exact holds_of_own 3 rfl)) Asks.nil)))))))) (bspan_con (hAB1.mono (by decide)) (hAB2.mono (by decide)) (by simp only [onv_t, fval_some, w12, w21, w23, w13, u1, u2, u3, u4, u5, Rat.add_comm q3 q1]) (by simp only [onv_t, fval_some, w12, w21, w23, w13, u1, u2, u3, u4, u5, Rat.add_comm q4 q2])) rfl ca13 ⟨rfl, rfl, rfl⟩ ?_
          rintro _ _ ⟨rfl, rfl⟩
          refine JL_move rfl ?_
          refine JL_guard_yes rfl rfl ?_
          refine JL_loadA (vs := [_, _, _, _, _, _]) 7 ty28 rfl rfl ⟨rfl, rfl, rfl, rfl, rfl, rfl, trivial⟩ ?_
          refine JL_guard_yes rfl rfl ?_
          refine JL_loadA (vs := [_, _, _, _, _, _]) 8 ty28 rfl rfl ⟨rfl, rfl, rfl, rfl, rfl, rfl, trivial⟩ ?_
          refine JL_guard_yes rfl rfl ?_
          refine JL_callF' (Asks.cons (by first | exact holds_of_mem (by repeat (first | with_reducible exact mm0 | refine mmS ?_)) | (exact holds_of_own 3 rfl)) (Asks.cons (by first | exact holds_of_mem (by repeat (first | with_reducible exact mm0 | refine mmS ?_)) | (exact holds_of_own 3 rfl)) (Asks.cons (by first | exact holds_of_mem (by repeat (first | with_reducible exact mm0 | refine mmS ?_)) | (exact holds_of_own 3 rfl)) (Asks.cons (by first | exact holds_of_mem (by repeat (first | with_reducible exact mm0 | refine mmS ?_)) | (exact holds_of_own 3 rfl)) (Asks.cons (by first | exact holds_of_mem (by repeat (first | with_reducible exact mm0 | refine mmS ?_)) | (exact holds_of_own 3 rfl)) (Asks.cons (by first | exact holds_of_mem (by repeat (first | with_reducible exact mm0 | refine mmS ?_)) | (exact holds_of_own 3 rfl)) (Asks.cons (by first | exact holds_of_mem (by repeat (first | with_reducible exact mm0 | refine mmS ?_)) | (exact holds_of_own 3 rfl)) (Asks.cons (by first | exact holds_of_mem (by repeat (first | with_reducible exact mm0 | refine mmS ?_)) | (exact holds_of_own 3 rfl)) Asks.nil)))))))) (bspan_con (hLE1.mono (by decide)) (hLE2.mono (by decide)) (by simp only [onv_t, fval_some, w12, w21, w23, w13, u1, u2, u3, u4, u5, Rat.add_assoc]) (by simp only [onv_t, fval_some, w12, w21, w23, w13, u1, u2, u3, u4, u5, Rat.add_assoc])) rfl ca13 ⟨rfl, rfl, rfl⟩ ?_
          rintro _ _ ⟨rfl, rfl⟩
          refine JL_pick_t rfl rfl ?_
          refine JL_move rfl ?_
          refine JL_guard_yes rfl rfl ?_
          refine JL_loadA (vs := [_, _, _, _, _, _]) 9 ty28 rfl rfl ⟨rfl, rfl, rfl, rfl, rfl, rfl, trivial⟩ ?_
          refine JL_guard_yes rfl rfl ?_
          refine JL_loadA (vs := [_, _, _, _, _, _]) 10 ty28 rfl rfl ⟨rfl, rfl, rfl, rfl, rfl, rfl, trivial⟩ ?_
          refine JL_guard_yes rfl rfl ?_
          refine JL_callF' (Asks.cons (by first | exact holds_of_mem (by repeat (first | with_reducible exact mm0 | refine mmS ?_)) | (exact holds_of_own 3 rfl)) (Asks.cons (by first | exact holds_of_mem (by repeat (first | with_reducible exact mm0 | refine mmS ?_)) | (exact holds_of_own 3 rfl)) (Asks.cons (by first | exact holds_of_mem (by repeat (first | with_reducible exact mm0 | refine mmS ?_)) | (exact holds_of_own 3 rfl)) (Asks.cons (by first | exact holds_of_mem (by repeat (first | with_reducible exact mm0 | refine mmS ?_)) | (exact holds_of_own 3 rfl)) (Asks.cons (by first | exact holds_of_mem (by repeat (first | with_reducible exact mm0 | refine mmS ?_)) | (exact holds_of_own 3 rfl)) (Asks.cons (by first | exact holds_of_mem (by repeat (first | with_reducible exact mm0 | refine mmS ?_)) | (exact holds_of_own 3 rfl)) (Asks.cons (by first | exact holds_of_mem (by repeat (first | with_reducible exact mm0 | refine mmS ?_)) | (exact holds_of_own 3 rfl)) (Asks.cons (by first | exact holds_of_mem (by repeat (first | with_reducible exact mm0 | refine mmS ?_)) | (exact holds_of_own 3 rfl)) Asks.nil)))))))) (bspan_con (hXY1.mono (by decide)) (hXY2.mono (by decide)) (by simp only [onv_t, fval_some, w12, w21, w23, w13, u1, u2, u3, u4, u5, Rat.mul_comm q3 q1]) (by simp only [onv_t, fval_some, w12, w21, w23, w13, u1, u2, u3, u4, u5, Rat.mul_comm q4 q2])) rfl ca13 ⟨rfl, rfl, rfl⟩ ?_
          rintro _ _ ⟨rfl, rfl⟩
          refine JL_pick_t rfl rfl ?_
          refine JL_move rfl ?_
          refine JL_guard_yes rfl rfl ?_
          refine JL_loadA (vs := [_, _, _, _, _, _]) 12 ty28 rfl rfl ⟨rfl, rfl, rfl, rfl, rfl, rfl, trivial⟩ ?_
          refine JL_guard_yes rfl rfl ?_
          refine JL_loadA (vs := [_, _, _, _, _, _]) 13 ty28 rfl rfl ⟨rfl, rfl, rfl, rfl, rfl, rfl, trivial⟩ ?_
          refine JL_guard_yes rfl rfl ?_
          refine JL_callF' (Asks.cons (by first | exact holds_of_mem (by repeat (first | with_reducible exact mm0 | refine mmS ?_)) | (exact holds_of_own 3 rfl)) (Asks.cons (by first | exact holds_of_mem (by repeat (first | with_reducible exact mm0 | refine mmS ?_)) | (exact holds_of_own 3 rfl)) (Asks.cons (by first | exact holds_of_mem (by repeat (first | with_reducible exact mm0 | refine mmS ?_)) | (exact holds_of_own 3 rfl)) (Asks.cons (by first | exact holds_of_mem (by repeat (first | with_reducible exact mm0 | refine mmS ?_)) | (exact holds_of_own 3 rfl)) (Asks.cons (by first | exact holds_of_mem (by repeat (first | with_reducible exact mm0 | refine mmS ?_)) | (exact holds_of_own 3 rfl)) (Asks.cons (by first | exact holds_of_mem (by repeat (first | with_reducible exact mm0 | refine mmS ?_)) | (exact holds_of_own 3 rfl)) (Asks.cons (by first | exact holds_of_mem (by repeat (first | with_reducible exact mm0 | refine mmS ?_)) | (exact holds_of_own 3 rfl)) (Asks.cons (by first | exact holds_of_mem (by repeat (first | with_reducible exact mm0 | refine mmS ?_)) | (exact holds_of_own 3 rfl)) Asks.nil)))))))) (bspan_con (hFI1.mono (by decide)) (hFI2.mono (by decide)) (by simp only [onv_t, fval_some, w12, w21, w23, w13, u1, u2, u3, u4, u5, Rat.mul_assoc]) (by simp only [onv_t, fval_some, w12, w21, w23, w13, u1, u2, u3, u4, u5, Rat.mul_assoc])) rfl ca13 ⟨rfl, rfl, rfl⟩ ?_
          rintro _ _ ⟨rfl, rfl⟩
          refine JL_pick_t rfl rfl ?_
          refine JL_move rfl ?_
          refine JL_guard_yes rfl rfl ?_
          refine JL_loadA (vs := [_, _, _, _, _, _]) 15 ty28 rfl rfl ⟨rfl, rfl, rfl, rfl, rfl, rfl, trivial⟩ ?_
          refine JL_guard_yes rfl rfl ?_
          refine JL_loadA (vs := [_, _, _, _, _, _]) 16 ty28 rfl rfl ⟨rfl, rfl, rfl, rfl, rfl, rfl, trivial⟩ ?_
          refine JL_guard_yes rfl rfl ?_
          refine JL_callF' (Asks.cons (by first | exact holds_of_mem (by repeat (first | with_reducible exact mm0 | refine mmS ?_)) | (exact holds_of_own 3 rfl)) (Asks.cons (by first | exact holds_of_mem (by repeat (first | with_reducible exact mm0 | refine mmS ?_)) | (exact holds_of_own 3 rfl)) (Asks.cons (by first | exact holds_of_mem (by repeat (first | with_reducible exact mm0 | refine mmS ?_)) | (exact holds_of_own 3 rfl)) (Asks.cons (by first | exact holds_of_mem (by repeat (first | with_reducible exact mm0 | refine mmS ?_)) | (exact holds_of_own 3 rfl)) (Asks.cons (by first | exact holds_of_mem (by repeat (first | with_reducible exact mm0 | refine mmS ?_)) | (exact holds_of_own 3 rfl)) (Asks.cons (by first | exact holds_of_mem (by repeat (first | with_reducible exact mm0 | refine mmS ?_)) | (exact holds_of_own 3 rfl)) (Asks.cons (by first | exact holds_of_mem (by repeat (first | with_reducible exact mm0 | refine mmS ?_)) | (exact holds_of_own 3 rfl)) (Asks.cons (by first | exact holds_of_mem (by repeat (first | with_reducible exact mm0 | refine mmS ?_)) | (exact holds_of_own 3 rfl)) Asks.nil)))))))) (bspan_con (hWH1.mono (by decide)) (hWH2.mono (by decide)) (by simp only [onv_t, fval_some, w12, w21, w23, w13, u1, u2, u3, u4, u5, Rat.mul_add]) (by simp only [onv_t, fval_some, w12, w21, w23, w13, u1, u2, u3, u4, u5, Rat.mul_add])) rfl ca13 ⟨rfl, rfl, rfl⟩ ?_
          rintro _ _ ⟨rfl, rfl⟩
          refine JL_pick_t rfl rfl ?_
          refine JL_move rfl ?_
          refine JL_guard_yes rfl rfl ?_
          refine JL_move rfl ?_
          refine JL_guard_yes rfl rfl ?_
          refine JL_eql rfl rfl ?_
          refine JL_split (fun h162 => ?_) (fun h162 => ?_)
          · refine JL_pick_t rfl rfl ?_
            refine JL_move rfl ?_
            refine JL_guard_yes rfl rfl ?_
            refine JL_move rfl ?_
            refine JL_guard_yes rfl rfl ?_
            refine JL_eql rfl rfl ?_
            refine JL_split (fun h166 => ?_) (fun h166 => ?_)
            · refine JL_pick_t rfl rfl ?_
              refine JL_assign rfl ?_
              refine JL_done_up 168 [box _ _ [_, _, _, _, _, _], box _ _ [_, _, _, _, _, _], box _ _ [_, _, _, _, _, _], osl _ _ _ _ _ _, box _ _ [_, _, _, _, _, _], box _ _ [_, _, _, _, _, _], box _ _ [_, _, _, _, _, _], box _ _ [_, _, _, _, _, _], box _ _ [_, _, _, _, _, _], box _ _ [_, _, _, _, _, _], box _ _ [_, _, _, _, _, _], box _ _ [_, _, _, _, _, _], box _ _ [_, _, _, _, _, _], box _ _ [_, _, _, _, _, _], box _ _ [_, _, _, _, _, _], box _ _ [_, _, _, _, _, _], box _ _ [_, _, _, _, _, _]] [_, _, _, _, _, _, _, _, _, _, _, _, _, _, _, _, _, _, _, _, _, _, _, _, _, _, _, _, _, _, _, _, _, _, _, _, _, _, _, _, _, _, _, _, _, _, _, _, _, _, _, _, _, _, _, _, _, _, _, _, _, _, _, _] rfl rfl (by simp only [upd_pend, upd_base, flatP, updV_zero, updV_succ]; rfl) rfl rfl ?_
              refine JC_ret ?_
              refine JE_ret (vs := [_]) [] Tryd.results3 ⟨rfl, rfl⟩ ?_ ?_
              · exact ⟨rfl, rfl⟩
              · exact all_nil
            · exact absurd (by simp only [onv_t, fval_some, w12, w21, w23, w13, u1, u2, u3, u4, u5]; rfl) h166
          · exact absurd (by simp only [onv_t, fval_some, w12, w21, w23, w13, u1, u2, u3, u4, u5]; rfl) h162
        · refine JL_guard_yes rfl rfl ?_
          refine JL_not rfl ?_
          rw [Bool.not_false]
          refine JL_pick_f rfl rfl ?_
          refine JL_done_up 168 [box _ _ [_, _, _, _, _, _], box _ _ [_, _, _, _, _, _], box _ _ [_, _, _, _, _, _], osl _ _ _ _ _ _] [_, _, _, _, _, _, _, _, _, _, _, _] rfl rfl (by simp only [upd_pend, upd_base, flatP, updV_zero, updV_succ]; rfl) rfl rfl ?_
          refine JC_true rfl ?_
          refine JC_seq ?_
          refine JC_region ?_
          refine JL_callF' Asks.nil (lawake_con) rfl ca8 rfl ?_
          rintro _ _ ⟨rfl, rfl⟩
          refine JL_assign rfl ?_
          refine JL_done_up 168 [box _ _ [_, _, _, _, _, _], box _ _ [_, _, _, _, _, _], box _ _ [_, _, _, _, _, _], osl _ _ _ _ _ _] [_, _, _, _, _, _, _, _, _, _, _, _] rfl rfl (by simp only [upd_pend, upd_base, flatP, updV_zero, updV_succ]; rfl) rfl rfl ?_
          refine JC_ret ?_
          refine JE_then_ret ?_
          refine JE_ret (vs := [_]) [] Tryd.results3 ⟨rfl, rfl⟩ ?_ ?_
          · exact ⟨rfl, rfl⟩
          · exact all_nil
      · refine JL_guard_yes rfl rfl ?_
        refine JL_not rfl ?_
        rw [Bool.not_false]
        refine JL_pick_f rfl rfl ?_
        refine JL_move rfl ?_
        refine JL_guard_no rfl rfl ?_
        refine JL_guard_no rfl rfl ?_
        refine JL_guard_no rfl rfl ?_
        refine JL_pick_t rfl rfl ?_
        refine JL_done_up 168 [box _ _ [_, _, _, _, _, _], box _ _ [_, _, _, _, _, _], box _ _ [_, _, _, _, _, _], osl _ _ _ _ _ _] [_, _, _, _, _, _, _, _, _, _, _, _] rfl rfl (by simp only [upd_pend, upd_base, flatP, updV_zero, updV_succ]; rfl) rfl rfl ?_
        refine JC_true rfl ?_
        refine JC_seq ?_
        refine JC_region ?_
        refine JL_callF' Asks.nil (lawake_con) rfl ca8 rfl ?_
        rintro _ _ ⟨rfl, rfl⟩
        refine JL_assign rfl ?_
        refine JL_done_up 168 [box _ _ [_, _, _, _, _, _], box _ _ [_, _, _, _, _, _], box _ _ [_, _, _, _, _, _], osl _ _ _ _ _ _] [_, _, _, _, _, _, _, _, _, _, _, _] rfl rfl (by simp only [upd_pend, upd_base, flatP, updV_zero, updV_succ]; rfl) rfl rfl ?_
        refine JC_ret ?_
        refine JE_then_ret ?_
        refine JE_ret (vs := [_]) [] Tryd.results3 ⟨rfl, rfl⟩ ?_ ?_
        · exact ⟨rfl, rfl⟩
        · exact all_nil
    · refine JL_guard_yes rfl rfl ?_
      refine JL_not rfl ?_
      rw [Bool.not_false]
      refine JL_pick_f rfl rfl ?_
      refine JL_move rfl ?_
      refine JL_guard_no rfl rfl ?_
      refine JL_guard_no rfl rfl ?_
      refine JL_guard_no rfl rfl ?_
      refine JL_pick_t rfl rfl ?_
      refine JL_move rfl ?_
      refine JL_guard_no rfl rfl ?_
      refine JL_guard_no rfl rfl ?_
      refine JL_guard_no rfl rfl ?_
      refine JL_pick_t rfl rfl ?_
      refine JL_done_up 168 [box _ _ [_, _, _, _, _, _], box _ _ [_, _, _, _, _, _], box _ _ [_, _, _, _, _, _], osl _ _ _ _ _ _] [_, _, _, _, _, _, _, _, _, _, _, _] rfl rfl (by simp only [upd_pend, upd_base, flatP, updV_zero, updV_succ]; rfl) rfl rfl ?_
      refine JC_true rfl ?_
      refine JC_seq ?_
      refine JC_region ?_
      refine JL_callF' Asks.nil (lawake_con) rfl ca8 rfl ?_
      rintro _ _ ⟨rfl, rfl⟩
      refine JL_assign rfl ?_
      refine JL_done_up 168 [box _ _ [_, _, _, _, _, _], box _ _ [_, _, _, _, _, _], box _ _ [_, _, _, _, _, _], osl _ _ _ _ _ _] [_, _, _, _, _, _, _, _, _, _, _, _] rfl rfl (by simp only [upd_pend, upd_base, flatP, updV_zero, updV_succ]; rfl) rfl rfl ?_
      refine JC_ret ?_
      refine JE_then_ret ?_
      refine JE_ret (vs := [_]) [] Tryd.results3 ⟨rfl, rfl⟩ ?_ ?_
      · exact ⟨rfl, rfl⟩
      · exact all_nil
  · refine JL_guard_yes rfl rfl ?_
    refine JL_not rfl ?_
    rw [Bool.not_false]
    refine JL_pick_f rfl rfl ?_
    refine JL_move rfl ?_
    refine JL_guard_no rfl rfl ?_
    refine JL_guard_no rfl rfl ?_
    refine JL_guard_no rfl rfl ?_
    refine JL_pick_t rfl rfl ?_
    refine JL_move rfl ?_
    refine JL_guard_no rfl rfl ?_
    refine JL_guard_no rfl rfl ?_
    refine JL_guard_no rfl rfl ?_
    refine JL_pick_t rfl rfl ?_
    refine JL_move rfl ?_
    refine JL_guard_no rfl rfl ?_
    refine JL_guard_no rfl rfl ?_
    refine JL_guard_no rfl rfl ?_
    refine JL_pick_t rfl rfl ?_
    refine JL_done_up 168 [box _ _ [_, _, _, _, _, _], box _ _ [_, _, _, _, _, _], box _ _ [_, _, _, _, _, _], osl _ _ _ _ _ _] [_, _, _, _, _, _, _, _, _, _, _, _] rfl rfl (by simp only [upd_pend, upd_base, flatP, updV_zero, updV_succ]; rfl) rfl rfl ?_
    refine JC_true rfl ?_
    refine JC_seq ?_
    refine JC_region ?_
    refine JL_callF' Asks.nil (lawake_con) rfl ca8 rfl ?_
    rintro _ _ ⟨rfl, rfl⟩
    refine JL_assign rfl ?_
    refine JL_done_up 168 [box _ _ [_, _, _, _, _, _], box _ _ [_, _, _, _, _, _], box _ _ [_, _, _, _, _, _], osl _ _ _ _ _ _] [_, _, _, _, _, _, _, _, _, _, _, _] rfl rfl (by simp only [upd_pend, upd_base, flatP, updV_zero, updV_succ]; rfl) rfl rfl ?_
    refine JC_ret ?_
    refine JE_then_ret ?_
    refine JE_ret (vs := [_]) [] Tryd.results3 ⟨rfl, rfl⟩ ?_ ?_
    · exact ⟨rfl, rfl⟩
    · exact all_nil

end Go.Fw.K
