/- Walks through functions of the given program: each meets its contract. (Printed by a program of this repo.) -/
import Derived.Test.YtgikgmhifjjekaaDoorX2
import Derived.Test.YtgikgmhifjjekaaDoorL2
import Derived.Test.YtgikgmhifjjekaaDoorI3
import Derived.Test.YtgikgmhifjjekaaDoorJ1
import Derived.Test.YtgikgmhifjjekaaDoorB1
import Derived.Test.YtgikgmhifjjekaaDoorProg
namespace Go.Fw.Y4
open Go Go.RowKit Go.Proofs Go.Nat9 Go.Fw
attribute [local irreducible] JC JL JE
theorem ca10 : callable Tryd.prog 10 = true := by kernel_rfl
theorem ca13 : callable Tryd.prog 13 = true := by kernel_rfl
theorem ca15 : callable Tryd.prog 15 = true := by kernel_rfl
theorem ca19 : callable Tryd.prog 19 = true := by kernel_rfl
theorem ca23 : callable Tryd.prog 23 = true := by kernel_rfl
theorem ca24 : callable Tryd.prog 24 = true := by kernel_rfl
theorem ca8 : callable Tryd.prog 8 = true := by kernel_rfl
theorem ca9 : callable Tryd.prog 9 = true := by kernel_rfl
theorem fo28_0 : fOf Tryd.prog 28 0 = some 0 := by kernel_rfl
theorem mixed : Tryd.prog.follows .mixedOrders = true := by kernel_rfl
theorem sl54 : slOf Tryd.prog 54 = some (28, 6, 112, [.bool false, .slice none 0 0, .slice none 0 0, .bool false, .slice none 0 0, .slice none 0 0]) := by kernel_rfl
theorem ty26 : tyOf Tryd.prog 26 = some (true, 3) := by kernel_rfl
theorem ty28 : tyOf Tryd.prog 28 = some (true, 6) := by kernel_rfl
theorem ub4 : Tryd.prog.underlying 4 = some .bool := by kernel_rfl
theorem z26 : zeroOf Tryd.prog 26 = some [.bool false, .slice none 0 0, .slice none 0 0] := by kernel_rfl
theorem z28 : zeroOf Tryd.prog 28 = some [.bool false, .slice none 0 0, .slice none 0 0, .bool false, .slice none 0 0, .slice none 0 0] := by kernel_rfl
end Go.Fw.Y4
namespace Go.Fw.K
open Go Go.RowKit Go.Proofs Go.Nat9 Go.Fw Go.Fw.Y4
attribute [local irreducible] JC JL JE

set_option maxHeartbeats 8000000 in
theorem issueMeets_con {s1 : Bool} {ad1 : Option Addr} {n1 c1 : Nat} {L1 : List Nat} {be1 : Option Addr} {m1 e1 : Nat} {M1 : List Nat} (r1 : RIn n1 L1 m1 M1) {s2 : Bool} {ad2 : Option Addr} {n2 c2 : Nat} {L2 : List Nat} {be2 : Option Addr} {m2 e2 : Nat} {M2 : List Nat} (r2 : RIn n2 L2 m2 M2) {s3 : Bool} {ad3 : Option Addr} {n3 c3 : Nat} {L3 : List Nat} {be3 : Option Addr} {m3 e3 : Nat} {M3 : List Nat} (r3 : RIn n3 L3 m3 M3) {s4 : Bool} {ad4 : Option Addr} {n4 c4 : Nat} {L4 : List Nat} {be4 : Option Addr} {m4 e4 : Nat} {M4 : List Nat} (r4 : RIn n4 L4 m4 M4) {k : Nat} (hkk : k < 256) :
    ConF Tryd.prog 7 [.agg #[.bool s1, .slice ad1 n1 c1, .slice be1 m1 e1, .bool s2, .slice ad2 n2 c2, .slice be2 m2 e2], .agg #[.bool s3, .slice ad3 n3 c3, .slice be3 m3 e3, .bool s4, .slice ad4 n4 c4, .slice be4 m4 e4], .int .u8 (k : Nat)] [vCells ad1 (u32s L1), vCells be1 (u32s M1), vCells ad2 (u32s L2), vCells be2 (u32s M2), vCells ad3 (u32s L3), vCells be3 (u32s M3), vCells ad4 (u32s L4), vCells be4 (u32s M4)]
      (fun v φo => v = .bool true ∧ φo = []) := by
  refine ConF_of Tryd.func7 rfl 93 _ rfl rfl ?_
  intro w0
  refine JC_norm ⟨93, [], [_, _, _, _, _, _, _, _, _, _, _, _, _, _, _, _, _, _, _, _, _, _, _, _, _, _, _, _, _, _, _, _, _, _, _, _, _, _, _, _, _, _, _, _, _, _, _, _, _, _, _, _, _, _, _, _, _, _, _, _, _, _, _, _, _, _, _, _, _, _, _, _, _, _, _, _, _, _, _, _, _, _, _, _, _, _, _, _, _, _, _, _, _]⟩ [] [_, _, _, _, _, _, _, _] rfl rfl rfl ?_
  refine JC_seq ?_
  refine JC_region ?_
  refine JL_box rfl rfl (fun b3 => ?_)
  refine JL_box rfl rfl (fun b4 => ?_)
  refine JL_assign rfl ?_
  refine JL_done_up 93 [box _ _ [_, _, _, _, _, _], box _ _ [_, _, _, _, _, _]] [_, _, _, _, _, _, _, _] rfl rfl (by simp only [upd_pend, upd_base, flatP, updV_zero, updV_succ]; rfl) rfl rfl ?_
  refine JC_seq ?_
  refine JC_seq ?_
  refine JC_region ?_
  refine JL_callF' Asks.nil (lawake_con) rfl ca8 rfl ?_
  rintro _ _ ⟨rfl, rfl⟩
  refine JL_not rfl ?_
  rw [Bool.not_true]
  refine JL_move rfl ?_
  refine JL_guard_yes rfl rfl ?_
  refine JL_loadA (vs := [_, _, _, _, _, _]) 0 ty28 rfl rfl ⟨rfl, rfl, rfl, rfl, rfl, rfl, trivial⟩ ?_
  refine JL_guard_yes rfl rfl ?_
  refine JL_loadA (vs := [_, _, _, _, _, _]) 1 ty28 rfl rfl ⟨rfl, rfl, rfl, rfl, rfl, rfl, trivial⟩ ?_
  refine JL_guard_yes rfl rfl ?_
  refine JL_buildN (cs0 := [.bool false, .slice none 0 0, .slice none 0 0, .bool false, .slice none 0 0, .slice none 0 0, .bool false, .slice none 0 0, .slice none 0 0, .bool false, .slice none 0 0, .slice none 0 0]) (cs := [_, _, _, _, _, _, _, _, _, _, _, _]) [(0, [_, _, _, _, _, _]), (1, [_, _, _, _, _, _])] sl54 (by kernel_rfl) ⟨⟨rfl, _, rfl, rfl⟩, ⟨rfl, _, rfl, rfl⟩, rfl⟩ rfl rfl rfl rfl (fun g17 => ?_)
  refine JL_guard_yes rfl rfl ?_
  refine JL_callF' (Asks.cons (by first | exact holds_of_mem (by repeat (first | with_reducible exact mm0 | refine mmS ?_)) | (exact holds_of_own 2 rfl)) Asks.nil) (lfew_con (l := [⟨s1, ad1, n1, c1, be1, m1, e1, s2, ad2, n2, c2, be2, m2, e2⟩, ⟨s3, ad3, n3, c3, be3, m3, e3, s4, ad4, n4, c4, be4, m4, e4⟩]) rfl (Nat.le_of_ble_eq_true rfl)) rfl ca9 ⟨rfl, rfl⟩ ?_
  rintro _ _ ⟨b18, rfl, rfl, hb18⟩
  refine JL_splitV (fun h18 => ?_) (fun h18 => ?_)
  · have hk := hb18 h18
    obtain ⟨a1, b1, a2, b2⟩ : n1 ≤ 4 ∧ m1 ≤ 4 ∧ n2 ≤ 4 ∧ m2 ≤ 4 := hk 0 (Nat.le_of_ble_eq_true rfl)
    have G1 := r1.fin (s := s1) a1 b1
    have hq1 := G1.qs
    obtain ⟨q1, hQ1⟩ : ∃ q, mkq s1 (val L1) (val M1) = q := ⟨_, rfl⟩
    rw [hQ1] at G1 hq1
    have G2 := r2.fin (s := s2) a2 b2
    have hq2 := G2.qs
    obtain ⟨q2, hQ2⟩ : ∃ q, mkq s2 (val L2) (val M2) = q := ⟨_, rfl⟩
    rw [hQ2] at G2 hq2
    obtain ⟨a3, b3, a4, b4⟩ : n3 ≤ 4 ∧ m3 ≤ 4 ∧ n4 ≤ 4 ∧ m4 ≤ 4 := hk 1 (Nat.le_of_ble_eq_true rfl)
    have G3 := r3.fin (s := s3) a3 b3
    have hq3 := G3.qs
    obtain ⟨q3, hQ3⟩ : ∃ q, mkq s3 (val L3) (val M3) = q := ⟨_, rfl⟩
    rw [hQ3] at G3 hq3
    have G4 := r4.fin (s := s4) a4 b4
    have hq4 := G4.qs
    obtain ⟨q4, hQ4⟩ : ∃ q, mkq s4 (val L4) (val M4) = q := ⟨_, rfl⟩
    rw [hQ4] at G4 hq4
    refine JL_guard_yes rfl rfl ?_
    refine JL_not rfl ?_
    rw [Bool.not_true]
    refine JL_pick_f rfl rfl ?_
    refine JL_move rfl ?_
    refine JL_guard_yes rfl rfl ?_
    refine JL_loadA (vs := [_, _, _, _, _, _]) 0 ty28 rfl rfl ⟨rfl, rfl, rfl, rfl, rfl, rfl, trivial⟩ ?_
    refine JL_guard_yes rfl rfl ?_
    refine JL_callF' (Asks.cons (by first | exact holds_of_mem (by repeat (first | with_reducible exact mm0 | refine mmS ?_)) | (exact holds_of_own 2 rfl)) (Asks.cons (by first | exact holds_of_mem (by repeat (first | with_reducible exact mm0 | refine mmS ?_)) | (exact holds_of_own 2 rfl)) (Asks.cons (by first | exact holds_of_mem (by repeat (first | with_reducible exact mm0 | refine mmS ?_)) | (exact holds_of_own 2 rfl)) (Asks.cons (by first | exact holds_of_mem (by repeat (first | with_reducible exact mm0 | refine mmS ?_)) | (exact holds_of_own 2 rfl)) Asks.nil)))) (rvalid_con (G1.mono (by decide)) (G2.mono (by decide))) rfl ca10 ⟨rfl, rfl⟩ ?_
    rintro _ _ ⟨rfl, rfl⟩
    refine JL_splitV (fun h23 => ?_) (fun h23 => ?_)
    · refine JL_guard_yes rfl rfl ?_
      refine JL_not rfl ?_
      rw [Bool.not_true]
      refine JL_pick_f rfl rfl ?_
      refine JL_move rfl ?_
      refine JL_guard_yes rfl rfl ?_
      refine JL_loadA (vs := [_, _, _, _, _, _]) 1 ty28 rfl rfl ⟨rfl, rfl, rfl, rfl, rfl, rfl, trivial⟩ ?_
      refine JL_guard_yes rfl rfl ?_
      refine JL_callF' (Asks.cons (by first | exact holds_of_mem (by repeat (first | with_reducible exact mm0 | refine mmS ?_)) | (exact holds_of_own 2 rfl)) (Asks.cons (by first | exact holds_of_mem (by repeat (first | with_reducible exact mm0 | refine mmS ?_)) | (exact holds_of_own 2 rfl)) (Asks.cons (by first | exact holds_of_mem (by repeat (first | with_reducible exact mm0 | refine mmS ?_)) | (exact holds_of_own 2 rfl)) (Asks.cons (by first | exact holds_of_mem (by repeat (first | with_reducible exact mm0 | refine mmS ?_)) | (exact holds_of_own 2 rfl)) Asks.nil)))) (rvalid_con (G3.mono (by decide)) (G4.mono (by decide))) rfl ca10 ⟨rfl, rfl⟩ ?_
      rintro _ _ ⟨rfl, rfl⟩
      refine JL_splitV (fun h28 => ?_) (fun h28 => ?_)
      · have hC : qs (fval (onv (mtV q1 q2 q3 q4) (mlo q1 q3))) 1000000000 := qs_onv (qs_mlo (hq1.mono (by decide)) (hq3.mono (by decide)))
        have hD : qs (fval (onv (mtV q1 q2 q3 q4) (mhi q2 q4))) 1000000000 := qs_onv (qs_mhi (hq2.mono (by decide)) (hq4.mono (by decide)))
        have hC6 : qs (fval (onv (mtV q1 q2 q3 q4) (mlo q1 q3))) 1000000 := qs_onv (qs_mlo (hq1.mono (by decide)) (hq3.mono (by decide)))
        have hD6 : qs (fval (onv (mtV q1 q2 q3 q4) (mhi q2 q4))) 1000000 := qs_onv (qs_mhi (hq2.mono (by decide)) (hq4.mono (by decide)))
        have hX : qs (ins q1 q2 k) 1000000 := qs_ins hq1 hq2 k (by decide)
        refine JL_guard_yes rfl rfl ?_
        refine JL_not rfl ?_
        rw [Bool.not_true]
        refine JL_pick_f rfl rfl ?_
        refine JL_done_up 93 [box _ _ [_, _, _, _, _, _], box _ _ [_, _, _, _, _, _], osl _ _ _ _ _ _] [_, _, _, _, _, _, _, _] rfl rfl (by simp only [upd_pend, upd_base, flatP, updV_zero, updV_succ]; rfl) rfl rfl ?_
        refine JC_false rfl ?_
        refine JC_skip ?_
        refine JE_then ?_
        refine JC_seq ?_
        refine JC_region ?_
        refine JL_loadA (vs := [_, _, _, _, _, _]) 0 ty28 rfl rfl ⟨rfl, rfl, rfl, rfl, rfl, rfl, trivial⟩ ?_
        refine JL_loadA (vs := [_, _, _, _, _, _]) 1 ty28 rfl rfl ⟨rfl, rfl, rfl, rfl, rfl, rfl, trivial⟩ ?_
        refine JL_callF' (Asks.cons (by first | exact holds_of_mem (by repeat (first | with_reducible exact mm0 | refine mmS ?_)) | (exact holds_of_own 2 rfl)) (Asks.cons (by first | exact holds_of_mem (by repeat (first | with_reducible exact mm0 | refine mmS ?_)) | (exact holds_of_own 2 rfl)) (Asks.cons (by first | exact holds_of_mem (by repeat (first | with_reducible exact mm0 | refine mmS ?_)) | (exact holds_of_own 2 rfl)) (Asks.cons (by first | exact holds_of_mem (by repeat (first | with_reducible exact mm0 | refine mmS ?_)) | (exact holds_of_own 2 rfl)) (Asks.cons (by first | exact holds_of_mem (by repeat (first | with_reducible exact mm0 | refine mmS ?_)) | (exact holds_of_own 2 rfl)) (Asks.cons (by first | exact holds_of_mem (by repeat (first | with_reducible exact mm0 | refine mmS ?_)) | (exact holds_of_own 2 rfl)) (Asks.cons (by first | exact holds_of_mem (by repeat (first | with_reducible exact mm0 | refine mmS ?_)) | (exact holds_of_own 2 rfl)) (Asks.cons (by first | exact holds_of_mem (by repeat (first | with_reducible exact mm0 | refine mmS ?_)) | (exact holds_of_own 2 rfl)) Asks.nil)))))))) (imeet_con (G1.mono (by decide)) (G2.mono (by decide)) (G3.mono (by decide)) (G4.mono (by decide))) rfl ca24 ⟨rfl, rfl, rfl⟩ ?_
        rintro _ _ ⟨ad35, cp35, be35, ce35, af35, cq35, bg35, cf35, rfl, rfl⟩
        refine JL_move rfl ?_
        refine JL_extract rfl rfl ?_
        refine JL_extract rfl rfl ?_
        refine JL_alloc z28 (fun b7 => ?_)
        refine JL_store (vs := [_, _, _, _, _, _]) 3 ty28 rfl rfl rfl (AllOne.cons rfl (AllOne.cons rfl (AllOne.cons rfl (AllOne.cons rfl (AllOne.cons rfl (AllOne.cons rfl AllOne.nil)))))) rfl (Nat.le_of_ble_eq_true rfl) ?_
        refine JL_assign rfl ?_
        refine JL_done_up 93 [box _ _ [_, _, _, _, _, _], box _ _ [_, _, _, _, _, _], osl _ _ _ _ _ _, box _ _ [_, _, _, _, _, _]] [_, _, _, _, _, _, _, _, _, _, _, _] rfl rfl (by simp only [upd_pend, upd_base, flatP, updV_zero, updV_succ]; rfl) rfl rfl ?_
        refine JC_seq ?_
        refine JC_region ?_
        refine JL_loadA (vs := [_, _, _, _, _, _]) 1 ty28 rfl rfl ⟨rfl, rfl, rfl, rfl, rfl, rfl, trivial⟩ ?_
        refine JL_loadA (vs := [_, _, _, _, _, _]) 0 ty28 rfl rfl ⟨rfl, rfl, rfl, rfl, rfl, rfl, trivial⟩ ?_
        refine JL_callF' (Asks.cons (by first | exact holds_of_mem (by repeat (first | with_reducible exact mm0 | refine mmS ?_)) | (exact holds_of_own 2 rfl)) (Asks.cons (by first | exact holds_of_mem (by repeat (first | with_reducible exact mm0 | refine mmS ?_)) | (exact holds_of_own 2 rfl)) (Asks.cons (by first | exact holds_of_mem (by repeat (first | with_reducible exact mm0 | refine mmS ?_)) | (exact holds_of_own 2 rfl)) (Asks.cons (by first | exact holds_of_mem (by repeat (first | with_reducible exact mm0 | refine mmS ?_)) | (exact holds_of_own 2 rfl)) (Asks.cons (by first | exact holds_of_mem (by repeat (first | with_reducible exact mm0 | refine mmS ?_)) | (exact holds_of_own 2 rfl)) (Asks.cons (by first | exact holds_of_mem (by repeat (first | with_reducible exact mm0 | refine mmS ?_)) | (exact holds_of_own 2 rfl)) (Asks.cons (by first | exact holds_of_mem (by repeat (first | with_reducible exact mm0 | refine mmS ?_)) | (exact holds_of_own 2 rfl)) (Asks.cons (by first | exact holds_of_mem (by repeat (first | with_reducible exact mm0 | refine mmS ?_)) | (exact holds_of_own 2 rfl)) Asks.nil)))))))) (imeet_con (G3.mono (by decide)) (G4.mono (by decide)) (G1.mono (by decide)) (G2.mono (by decide))) rfl ca24 ⟨rfl, rfl, rfl⟩ ?_
        rintro _ _ ⟨ad41, cp41, be41, ce41, af41, cq41, bg41, cf41, rfl, rfl⟩
        refine JL_move rfl ?_
        refine JL_extract rfl rfl ?_
        refine JL_extract rfl rfl ?_
        refine JL_alloc z28 (fun b9 => ?_)
        refine JL_store (vs := [_, _, _, _, _, _]) 4 ty28 rfl rfl rfl (AllOne.cons rfl (AllOne.cons rfl (AllOne.cons rfl (AllOne.cons rfl (AllOne.cons rfl (AllOne.cons rfl AllOne.nil)))))) rfl (Nat.le_of_ble_eq_true rfl) ?_
        refine JL_assign rfl ?_
        refine JL_done_up 93 [box _ _ [_, _, _, _, _, _], box _ _ [_, _, _, _, _, _], osl _ _ _ _ _ _, box _ _ [_, _, _, _, _, _], box _ _ [_, _, _, _, _, _]] [_, _, _, _, _, _, _, _, _, _, _, _, _, _, _, _] rfl rfl (by simp only [upd_pend, upd_base, flatP, updV_zero, updV_succ]; rfl) rfl rfl ?_
        refine JC_seq ?_
        refine JC_region ?_
        refine JL_loadA (vs := [_, _, _, _, _, _]) 0 ty28 rfl rfl ⟨rfl, rfl, rfl, rfl, rfl, rfl, trivial⟩ ?_
        refine JL_move rfl ?_
        refine JL_callF' (Asks.cons (by first | exact holds_of_mem (by repeat (first | with_reducible exact mm0 | refine mmS ?_)) | (exact holds_of_own 2 rfl)) (Asks.cons (by first | exact holds_of_mem (by repeat (first | with_reducible exact mm0 | refine mmS ?_)) | (exact holds_of_own 2 rfl)) (Asks.cons (by first | exact holds_of_mem (by repeat (first | with_reducible exact mm0 | refine mmS ?_)) | (exact holds_of_own 2 rfl)) (Asks.cons (by first | exact holds_of_mem (by repeat (first | with_reducible exact mm0 | refine mmS ?_)) | (exact holds_of_own 2 rfl)) Asks.nil)))) (linside_con (G1.mono (by decide)) (G2.mono (by decide)) k hkk) rfl ca15 ⟨rfl, rfl, rfl⟩ ?_
        rintro _ _ ⟨ad46, cp46, be46, ce46, rfl, rfl⟩
        refine JL_alloc z26 (fun b11 => ?_)
        refine JL_store (vs := [_, _, _]) 5 ty26 rfl rfl rfl (AllOne.cons rfl (AllOne.cons rfl (AllOne.cons rfl AllOne.nil))) rfl (Nat.le_of_ble_eq_true rfl) ?_
        refine JL_done_up 93 [box _ _ [_, _, _, _, _, _], box _ _ [_, _, _, _, _, _], osl _ _ _ _ _ _, box _ _ [_, _, _, _, _, _], box _ _ [_, _, _, _, _, _], box _ _ [_, _, _]] [_, _, _, _, _, _, _, _, _, _, _, _, _, _, _, _, _, _] rfl rfl (by simp only [upd_pend, upd_base, flatP, updV_zero, updV_succ]; rfl) rfl rfl ?_
        refine JC_seq ?_
        refine JC_seq ?_
        refine JC_region ?_
        refine JL_move rfl ?_
        refine JL_move rfl ?_
        refine JL_neqB ub4 rfl rfl ?_
        refine JL_splitNeB (fun h49 => ?_) (fun h49 => ?_)
        · exact absurd (mtV_comm h23 h28) h49
        · refine JL_move rfl ?_
          refine JL_guard_yes rfl rfl ?_
          refine JL_loadA (vs := [_, _, _, _, _, _]) 3 ty28 rfl rfl ⟨rfl, rfl, rfl, rfl, rfl, rfl, trivial⟩ ?_
          refine JL_guard_yes rfl rfl ?_
          refine JL_loadA (vs := [_, _, _, _, _, _]) 4 ty28 rfl rfl ⟨rfl, rfl, rfl, rfl, rfl, rfl, trivial⟩ ?_
          refine JL_guard_yes rfl rfl ?_
          refine JL_callF' (Asks.cons (by first | exact holds_of_mem (by repeat (first | with_reducible exact mm0 | refine mmS ?_)) | (exact holds_of_own 2 rfl)) (Asks.cons (by first | exact holds_of_mem (by repeat (first | with_reducible exact mm0 | refine mmS ?_)) | (exact holds_of_own 2 rfl)) (Asks.cons (by first | exact holds_of_mem (by repeat (first | with_reducible exact mm0 | refine mmS ?_)) | (exact holds_of_own 2 rfl)) (Asks.cons (by first | exact holds_of_mem (by repeat (first | with_reducible exact mm0 | refine mmS ?_)) | (exact holds_of_own 2 rfl)) (Asks.cons (by first | exact holds_of_mem (by repeat (first | with_reducible exact mm0 | refine mmS ?_)) | (exact holds_of_own 2 rfl)) (Asks.cons (by first | exact holds_of_mem (by repeat (first | with_reducible exact mm0 | refine mmS ?_)) | (exact holds_of_own 2 rfl)) (Asks.cons (by first | exact holds_of_mem (by repeat (first | with_reducible exact mm0 | refine mmS ?_)) | (exact holds_of_own 2 rfl)) (Asks.cons (by first | exact holds_of_mem (by repeat (first | with_reducible exact mm0 | refine mmS ?_)) | (exact holds_of_own 2 rfl)) Asks.nil)))))))) (bspan_con hC hD (by rw [mtV_comm h28 h23, mlo_comm]) (by rw [mtV_comm h28 h23, mhi_comm])) rfl ca13 ⟨rfl, rfl, rfl⟩ ?_
          rintro _ _ ⟨rfl, rfl⟩
          refine JL_guard_yes rfl rfl ?_
          refine JL_not rfl ?_
          rw [Bool.not_true]
          refine JL_pick_f rfl rfl ?_
          refine JL_done_up 93 [box _ _ [_, _, _, _, _, _], box _ _ [_, _, _, _, _, _], osl _ _ _ _ _ _, box _ _ [_, _, _, _, _, _], box _ _ [_, _, _, _, _, _], box _ _ [_, _, _]] [_, _, _, _, _, _, _, _, _, _, _, _, _, _, _, _, _, _] rfl rfl (by simp only [upd_pend, upd_base, flatP, updV_zero, updV_succ]; rfl) rfl rfl ?_
          refine JC_false rfl ?_
          refine JC_skip ?_
          refine JE_then ?_
          refine JC_seq ?_
          refine JC_seq ?_
          refine JC_region ?_
          refine JL_move rfl ?_
          refine JL_not rfl ?_
          refine JL_done_up 93 [box _ _ [_, _, _, _, _, _], box _ _ [_, _, _, _, _, _], osl _ _ _ _ _ _, box _ _ [_, _, _, _, _, _], box _ _ [_, _, _, _, _, _], box _ _ [_, _, _]] [_, _, _, _, _, _, _, _, _, _, _, _, _, _, _, _, _, _] rfl rfl (by simp only [upd_pend, upd_base, flatP, updV_zero, updV_succ]; rfl) rfl rfl ?_
          refine JC_cond rfl (fun hb => ?_) (fun hb => ?_)
          · have h57 := hb
            refine JC_seq ?_
            refine JC_region ?_
            refine JL_loadA (vs := [_, _, _, _, _, _]) 1 ty28 rfl rfl ⟨rfl, rfl, rfl, rfl, rfl, rfl, trivial⟩ ?_
            refine JL_loadA (vs := [_, _, _]) 5 ty26 rfl rfl ⟨rfl, rfl, rfl, trivial⟩ ?_
            refine JL_callF' (Asks.cons (by first | exact holds_of_mem (by repeat (first | with_reducible exact mm0 | refine mmS ?_)) | (exact holds_of_own 2 rfl)) (Asks.cons (by first | exact holds_of_mem (by repeat (first | with_reducible exact mm0 | refine mmS ?_)) | (exact holds_of_own 2 rfl)) (Asks.cons (by first | exact holds_of_mem (by repeat (first | with_reducible exact mm0 | refine mmS ?_)) | (exact holds_of_own 2 rfl)) (Asks.cons (by first | exact holds_of_mem (by repeat (first | with_reducible exact mm0 | refine mmS ?_)) | (exact holds_of_own 2 rfl)) (Asks.cons (by first | exact holds_of_mem (by repeat (first | with_reducible exact mm0 | refine mmS ?_)) | (exact holds_of_own 2 rfl)) (Asks.cons (by first | exact holds_of_mem (by repeat (first | with_reducible exact mm0 | refine mmS ?_)) | (exact holds_of_own 2 rfl)) Asks.nil)))))) (lhas_con (G3.mono (by decide)) (G4.mono (by decide)) (FIn.some hX)) rfl ca19 ⟨rfl, rfl, rfl⟩ ?_
            rintro _ _ ⟨rfl, rfl⟩
            refine JL_splitV (fun h60 => ?_) (fun h60 => ?_)
            · exact absurd h60 (meets_no h23 h28 h57 k)
            · refine JL_not rfl ?_
              rw [Bool.not_false]
              refine JL_move rfl ?_
              refine JL_guard_yes rfl rfl ?_
              refine JL_loadA (vs := [_, _, _, _, _, _]) 1 ty28 rfl rfl ⟨rfl, rfl, rfl, rfl, rfl, rfl, trivial⟩ ?_
              refine JL_guard_yes rfl rfl ?_
              refine JL_fieldAddr fo28_0 rfl ?_
              refine JL_guard_yes rfl rfl ?_
              refine JL_loadA (vs := [_, _, _]) 0 ty26 rfl rfl ⟨rfl, rfl, rfl, trivial⟩ ?_
              refine JL_guard_yes rfl rfl ?_
              refine JL_callF' (Asks.cons (by first | exact holds_of_mem (by repeat (first | with_reducible exact mm0 | refine mmS ?_)) | (exact holds_of_own 2 rfl)) (Asks.cons (by first | exact holds_of_mem (by repeat (first | with_reducible exact mm0 | refine mmS ?_)) | (exact holds_of_own 2 rfl)) (Asks.cons (by first | exact holds_of_mem (by repeat (first | with_reducible exact mm0 | refine mmS ?_)) | (exact holds_of_own 2 rfl)) (Asks.cons (by first | exact holds_of_mem (by repeat (first | with_reducible exact mm0 | refine mmS ?_)) | (exact holds_of_own 2 rfl)) (Asks.cons (by first | exact holds_of_mem (by repeat (first | with_reducible exact mm0 | refine mmS ?_)) | (exact holds_of_own 2 rfl)) (Asks.cons (by first | exact holds_of_mem (by repeat (first | with_reducible exact mm0 | refine mmS ?_)) | (exact holds_of_own 2 rfl)) Asks.nil)))))) (lhas_con (G3.mono (by decide)) (G4.mono (by decide)) (G1.mono (by decide))) rfl ca19 ⟨rfl, rfl, rfl⟩ ?_
              rintro _ _ ⟨rfl, rfl⟩
              refine JL_splitV (fun h66 => ?_) (fun h66 => ?_)
              · exact absurd h66 (meets_no1 h23 h28 h57)
              · refine JL_guard_yes rfl rfl ?_
                refine JL_not rfl ?_
                rw [Bool.not_false]
                refine JL_pick_t rfl rfl ?_
                refine JL_move rfl ?_
                refine JL_guard_yes rfl rfl ?_
                refine JL_loadA (vs := [_, _, _, _, _, _]) 0 ty28 rfl rfl ⟨rfl, rfl, rfl, rfl, rfl, rfl, trivial⟩ ?_
                refine JL_guard_yes rfl rfl ?_
                refine JL_fieldAddr fo28_0 rfl ?_
                refine JL_guard_yes rfl rfl ?_
                refine JL_loadA (vs := [_, _, _]) 1 ty26 rfl rfl ⟨rfl, rfl, rfl, trivial⟩ ?_
                refine JL_guard_yes rfl rfl ?_
                refine JL_callF' (Asks.cons (by first | exact holds_of_mem (by repeat (first | with_reducible exact mm0 | refine mmS ?_)) | (exact holds_of_own 2 rfl)) (Asks.cons (by first | exact holds_of_mem (by repeat (first | with_reducible exact mm0 | refine mmS ?_)) | (exact holds_of_own 2 rfl)) (Asks.cons (by first | exact holds_of_mem (by repeat (first | with_reducible exact mm0 | refine mmS ?_)) | (exact holds_of_own 2 rfl)) (Asks.cons (by first | exact holds_of_mem (by repeat (first | with_reducible exact mm0 | refine mmS ?_)) | (exact holds_of_own 2 rfl)) (Asks.cons (by first | exact holds_of_mem (by repeat (first | with_reducible exact mm0 | refine mmS ?_)) | (exact holds_of_own 2 rfl)) (Asks.cons (by first | exact holds_of_mem (by repeat (first | with_reducible exact mm0 | refine mmS ?_)) | (exact holds_of_own 2 rfl)) Asks.nil)))))) (lhas_con (G1.mono (by decide)) (G2.mono (by decide)) (G3.mono (by decide))) rfl ca19 ⟨rfl, rfl, rfl⟩ ?_
                rintro _ _ ⟨rfl, rfl⟩
                refine JL_splitV (fun h73 => ?_) (fun h73 => ?_)
                · exact absurd h73 (meets_no2 h23 h28 h57)
                · refine JL_guard_yes rfl rfl ?_
                  refine JL_not rfl ?_
                  rw [Bool.not_false]
                  refine JL_pick_t rfl rfl ?_
                  refine JL_assign rfl ?_
                  refine JL_done_up 93 [box _ _ [_, _, _, _, _, _], box _ _ [_, _, _, _, _, _], osl _ _ _ _ _ _, box _ _ [_, _, _, _, _, _], box _ _ [_, _, _, _, _, _], box _ _ [_, _, _]] [_, _, _, _, _, _, _, _, _, _, _, _, _, _, _, _, _, _] rfl rfl (by simp only [upd_pend, upd_base, flatP, updV_zero, updV_succ]; rfl) rfl rfl ?_
                  refine JC_ret ?_
                  refine JE_then_ret ?_
                  refine JE_ret (vs := [_]) [] Tryd.results7 ⟨rfl, rfl⟩ ?_ ?_
                  · exact ⟨rfl, rfl⟩
                  · exact all_nil
          · have h57 := hb
            refine JC_skip ?_
            refine JE_then ?_
            refine JC_seq ?_
            refine JC_drawT mixed 15 [spV 76 [] _, spV 77 [] _, spC 78 [0, 1] _, spV 79 [] _, spV 80 [] _, spC 81 [3, 4] _, spV 82 [2, 5] _, spV 83 [6] _, spV 84 [7] _, spV 85 [7] _, spC 86 [7, 8, 9] _, spV 87 [7, 10] _, spV 88 [11] _, spV 89 [12] _, spV 90 [12] _] ⟨OblS_V (fun vals ex ψ => (by
                refine JL_normQ ⟨93, [(76, _), (77, _), (78, _), (79, _), (80, _), (81, _), (82, _), (83, _), (84, _), (85, _), (86, _), (87, _), (88, _), (89, _), (90, _)], _⟩ (_ :: _ :: _ :: _ :: _ :: _ :: _ :: _ :: _ :: _ :: _ :: _ :: _ :: _ :: _ :: _ :: _ :: _ :: ψ) rfl rfl ?_
                refine JL_loadA (vs := [_, _, _, _, _, _]) 3 ty28 rfl rfl ⟨rfl, rfl, rfl, rfl, rfl, rfl, trivial⟩ ?_
                exact JL_nil (JE_stepV rfl ss0))), OblS_V (fun vals ex ψ => (by
                refine JL_normQ ⟨93, [(76, _), (77, _), (78, _), (79, _), (80, _), (81, _), (82, _), (83, _), (84, _), (85, _), (86, _), (87, _), (88, _), (89, _), (90, _)], _⟩ (_ :: _ :: _ :: _ :: _ :: _ :: _ :: _ :: _ :: _ :: _ :: _ :: _ :: _ :: _ :: _ :: _ :: _ :: ψ) rfl rfl ?_
                refine JL_loadA (vs := [_, _, _]) 5 ty26 rfl rfl ⟨rfl, rfl, rfl, trivial⟩ ?_
                exact JL_nil (JE_stepV rfl ss0))), OblS_C (fun vals ex ψ => (by
                refine JL_normQ ⟨93, [(76, _), (77, _), (78, _), (79, _), (80, _), (81, _), (82, _), (83, _), (84, _), (85, _), (86, _), (87, _), (88, _), (89, _), (90, _)], _⟩ (_ :: _ :: _ :: _ :: _ :: _ :: _ :: _ :: _ :: _ :: _ :: _ :: _ :: _ :: _ :: _ :: _ :: _ :: ψ) rfl rfl ?_
                refine JL_callF' (Asks.cons (by first | exact holds_of_mem (by repeat (first | with_reducible exact mm0 | refine mmS ?_)) | (exact holds_of_own 2 rfl)) (Asks.cons (by first | exact holds_of_mem (by repeat (first | with_reducible exact mm0 | refine mmS ?_)) | (exact holds_of_own 2 rfl)) (Asks.cons (by first | exact holds_of_mem (by repeat (first | with_reducible exact mm0 | refine mmS ?_)) | (exact holds_of_own 2 rfl)) (Asks.cons (by first | exact holds_of_mem (by repeat (first | with_reducible exact mm0 | refine mmS ?_)) | (exact holds_of_own 2 rfl)) (Asks.cons (by first | exact holds_of_mem (by repeat (first | with_reducible exact mm0 | refine mmS ?_)) | (exact holds_of_own 2 rfl)) (Asks.cons (by first | exact holds_of_mem (by repeat (first | with_reducible exact mm0 | refine mmS ?_)) | (exact holds_of_own 2 rfl)) Asks.nil)))))) (lhas_con (FIn.of (o := onv (mtV q1 q2 q3 q4) (mlo q1 q3)) hC6) (FIn.of (o := onv (mtV q1 q2 q3 q4) (mhi q2 q4)) hD6) (FIn.some hX)) rfl ca19 ⟨rfl, rfl, rfl⟩ ?_
                exact fun v φo hP => JL_nil (JE_stepC φo rfl hP (fun p hp => mapB_l hp) (fun p hp => mapB_r (ss0 p hp))))), OblS_V (fun vals ex ψ => (by
                refine JL_normQ ⟨93, [(76, _), (77, _), (78, _), (79, _), (80, _), (81, _), (82, _), (83, _), (84, _), (85, _), (86, _), (87, _), (88, _), (89, _), (90, _)], _⟩ (_ :: _ :: _ :: _ :: _ :: _ :: _ :: _ :: _ :: _ :: _ :: _ :: _ :: _ :: _ :: _ :: _ :: _ :: ψ) rfl rfl ?_
                refine JL_loadA (vs := [_, _, _, _, _, _]) 1 ty28 rfl rfl ⟨rfl, rfl, rfl, rfl, rfl, rfl, trivial⟩ ?_
                exact JL_nil (JE_stepV rfl ss0))), OblS_V (fun vals ex ψ => (by
                refine JL_normQ ⟨93, [(76, _), (77, _), (78, _), (79, _), (80, _), (81, _), (82, _), (83, _), (84, _), (85, _), (86, _), (87, _), (88, _), (89, _), (90, _)], _⟩ (_ :: _ :: _ :: _ :: _ :: _ :: _ :: _ :: _ :: _ :: _ :: _ :: _ :: _ :: _ :: _ :: _ :: _ :: ψ) rfl rfl ?_
                refine JL_loadA (vs := [_, _, _]) 5 ty26 rfl rfl ⟨rfl, rfl, rfl, trivial⟩ ?_
                exact JL_nil (JE_stepV rfl ss0))), OblS_C (fun vals ex ψ => (by
                refine JL_normQ ⟨93, [(76, _), (77, _), (78, _), (79, _), (80, _), (81, _), (82, _), (83, _), (84, _), (85, _), (86, _), (87, _), (88, _), (89, _), (90, _)], _⟩ (_ :: _ :: _ :: _ :: _ :: _ :: _ :: _ :: _ :: _ :: _ :: _ :: _ :: _ :: _ :: _ :: _ :: _ :: ψ) rfl rfl ?_
                refine JL_callF' (Asks.cons (by first | exact holds_of_mem (by repeat (first | with_reducible exact mm0 | refine mmS ?_)) | (exact holds_of_own 2 rfl)) (Asks.cons (by first | exact holds_of_mem (by repeat (first | with_reducible exact mm0 | refine mmS ?_)) | (exact holds_of_own 2 rfl)) (Asks.cons (by first | exact holds_of_mem (by repeat (first | with_reducible exact mm0 | refine mmS ?_)) | (exact holds_of_own 2 rfl)) (Asks.cons (by first | exact holds_of_mem (by repeat (first | with_reducible exact mm0 | refine mmS ?_)) | (exact holds_of_own 2 rfl)) (Asks.cons (by first | exact holds_of_mem (by repeat (first | with_reducible exact mm0 | refine mmS ?_)) | (exact holds_of_own 2 rfl)) (Asks.cons (by first | exact holds_of_mem (by repeat (first | with_reducible exact mm0 | refine mmS ?_)) | (exact holds_of_own 2 rfl)) Asks.nil)))))) (lhas_con (G3.mono (by decide)) (G4.mono (by decide)) (FIn.some hX)) rfl ca19 ⟨rfl, rfl, rfl⟩ ?_
                exact fun v φo hP => JL_nil (JE_stepC φo rfl hP (fun p hp => mapB_l hp) (fun p hp => mapB_r (ss0 p hp))))), OblS_V (fun vals ex ψ => (by
                refine JL_normQ ⟨93, [(76, _), (77, _), (78, _), (79, _), (80, _), (81, _), (82, _), (83, _), (84, _), (85, _), (86, _), (87, _), (88, _), (89, _), (90, _)], _⟩ (_ :: _ :: _ :: _ :: _ :: _ :: _ :: _ :: _ :: _ :: _ :: _ :: _ :: _ :: _ :: _ :: _ :: _ :: _ :: _ :: ψ) rfl rfl ?_
                generalize vals 2 = x78
                refine JL_usePost mm0 (fun φo hP => ?_)
                obtain ⟨rfl, rfl⟩ := hP
                refine JL_norm _ _ (_ :: _ :: _ :: _ :: _ :: _ :: _ :: _ :: _ :: _ :: _ :: _ :: _ :: _ :: _ :: _ :: _ :: _ :: _ :: _ :: ψ) rfl rfl rfl ?_
                generalize vals 5 = x81
                refine JL_usePost (mmS mm0) (fun φo hP => ?_)
                obtain ⟨rfl, rfl⟩ := hP
                refine JL_norm _ _ (_ :: _ :: _ :: _ :: _ :: _ :: _ :: _ :: _ :: _ :: _ :: _ :: _ :: _ :: _ :: _ :: _ :: _ :: _ :: _ :: ψ) rfl rfl rfl ?_
                refine JL_eqlB ub4 rfl rfl ?_
                rw [meets_same h23 h57 k]
                exact JL_nil (JE_stepV rfl ss0))), OblS_V (fun vals ex ψ => (by
                refine JL_normQ ⟨93, [(76, _), (77, _), (78, _), (79, _), (80, _), (81, _), (82, _), (83, _), (84, _), (85, _), (86, _), (87, _), (88, _), (89, _), (90, _)], _⟩ (_ :: _ :: _ :: _ :: _ :: _ :: _ :: _ :: _ :: _ :: _ :: _ :: _ :: _ :: _ :: _ :: _ :: _ :: ψ) rfl rfl ?_
                refine JL_move rfl ?_
                exact JL_nil (JE_stepV rfl ss0))), OblS_V (fun vals ex ψ => (by
                refine JL_normQ ⟨93, [(76, _), (77, _), (78, _), (79, _), (80, _), (81, _), (82, _), (83, _), (84, _), (85, _), (86, _), (87, _), (88, _), (89, _), (90, _)], _⟩ (_ :: _ :: _ :: _ :: _ :: _ :: _ :: _ :: _ :: _ :: _ :: _ :: _ :: _ :: _ :: _ :: _ :: _ :: ψ) rfl rfl ?_
                refine JL_guard_yes rfl rfl ?_
                refine JL_loadA (vs := [_, _, _, _, _, _]) 3 ty28 rfl rfl ⟨rfl, rfl, rfl, rfl, rfl, rfl, trivial⟩ ?_
                exact JL_nil (JE_stepV rfl ss0))), OblS_V (fun vals ex ψ => (by
                refine JL_normQ ⟨93, [(76, _), (77, _), (78, _), (79, _), (80, _), (81, _), (82, _), (83, _), (84, _), (85, _), (86, _), (87, _), (88, _), (89, _), (90, _)], _⟩ (_ :: _ :: _ :: _ :: _ :: _ :: _ :: _ :: _ :: _ :: _ :: _ :: _ :: _ :: _ :: _ :: _ :: _ :: ψ) rfl rfl ?_
                refine JL_guard_yes rfl rfl ?_
                refine JL_loadA (vs := [_, _, _, _, _, _]) 0 ty28 rfl rfl ⟨rfl, rfl, rfl, rfl, rfl, rfl, trivial⟩ ?_
                exact JL_nil (JE_stepV rfl ss0))), OblS_C (fun vals ex ψ => (by
                refine JL_normQ ⟨93, [(76, _), (77, _), (78, _), (79, _), (80, _), (81, _), (82, _), (83, _), (84, _), (85, _), (86, _), (87, _), (88, _), (89, _), (90, _)], _⟩ (_ :: _ :: _ :: _ :: _ :: _ :: _ :: _ :: _ :: _ :: _ :: _ :: _ :: _ :: _ :: _ :: _ :: _ :: ψ) rfl rfl ?_
                refine JL_guard_yes rfl rfl ?_
                refine JL_callF' (Asks.cons (by first | exact holds_of_mem (by repeat (first | with_reducible exact mm0 | refine mmS ?_)) | (exact holds_of_own 2 rfl)) (Asks.cons (by first | exact holds_of_mem (by repeat (first | with_reducible exact mm0 | refine mmS ?_)) | (exact holds_of_own 2 rfl)) (Asks.cons (by first | exact holds_of_mem (by repeat (first | with_reducible exact mm0 | refine mmS ?_)) | (exact holds_of_own 2 rfl)) (Asks.cons (by first | exact holds_of_mem (by repeat (first | with_reducible exact mm0 | refine mmS ?_)) | (exact holds_of_own 2 rfl)) (Asks.cons (by first | exact holds_of_mem (by repeat (first | with_reducible exact mm0 | refine mmS ?_)) | (exact holds_of_own 2 rfl)) (Asks.cons (by first | exact holds_of_mem (by repeat (first | with_reducible exact mm0 | refine mmS ?_)) | (exact holds_of_own 2 rfl)) (Asks.cons (by first | exact holds_of_mem (by repeat (first | with_reducible exact mm0 | refine mmS ?_)) | (exact holds_of_own 2 rfl)) (Asks.cons (by first | exact holds_of_mem (by repeat (first | with_reducible exact mm0 | refine mmS ?_)) | (exact holds_of_own 2 rfl)) Asks.nil)))))))) (con_true (meets_in1 h23 h28 h57) (lwithin_con (FIn.of (o := onv (mtV q1 q2 q3 q4) (mlo q1 q3)) hC6) (FIn.of (o := onv (mtV q1 q2 q3 q4) (mhi q2 q4)) hD6) (G1.mono (by decide)) (G2.mono (by decide)))) rfl ca23 ⟨rfl, rfl, rfl⟩ ?_
                exact fun v φo hP => JL_nil (JE_stepC φo rfl hP (fun p hp => mapB_l hp) (fun p hp => mapB_r (ss0 p hp))))), OblS_V (fun vals ex ψ => (by
                refine JL_normQ ⟨93, [(76, _), (77, _), (78, _), (79, _), (80, _), (81, _), (82, _), (83, _), (84, _), (85, _), (86, _), (87, _), (88, _), (89, _), (90, _)], _⟩ (_ :: _ :: _ :: _ :: _ :: _ :: _ :: _ :: _ :: _ :: _ :: _ :: _ :: _ :: _ :: _ :: _ :: _ :: _ :: ψ) rfl rfl ?_
                generalize vals 10 = x86
                refine JL_usePost mm0 (fun φo hP => ?_)
                obtain ⟨rfl, rfl⟩ := hP
                refine JL_norm _ _ (_ :: _ :: _ :: _ :: _ :: _ :: _ :: _ :: _ :: _ :: _ :: _ :: _ :: _ :: _ :: _ :: _ :: _ :: _ :: ψ) rfl rfl rfl ?_
                refine JL_pick_t rfl rfl ?_
                exact JL_nil (JE_stepV rfl ss0))), OblS_V (fun vals ex ψ => (by
                refine JL_normQ ⟨93, [(76, _), (77, _), (78, _), (79, _), (80, _), (81, _), (82, _), (83, _), (84, _), (85, _), (86, _), (87, _), (88, _), (89, _), (90, _)], _⟩ (_ :: _ :: _ :: _ :: _ :: _ :: _ :: _ :: _ :: _ :: _ :: _ :: _ :: _ :: _ :: _ :: _ :: _ :: ψ) rfl rfl ?_
                refine JL_move rfl ?_
                exact JL_nil (JE_stepV rfl ss0))), OblS_V (fun vals ex ψ => (by
                refine JL_normQ ⟨93, [(76, _), (77, _), (78, _), (79, _), (80, _), (81, _), (82, _), (83, _), (84, _), (85, _), (86, _), (87, _), (88, _), (89, _), (90, _)], _⟩ (_ :: _ :: _ :: _ :: _ :: _ :: _ :: _ :: _ :: _ :: _ :: _ :: _ :: _ :: _ :: _ :: _ :: _ :: ψ) rfl rfl ?_
                refine JL_guard_yes rfl rfl ?_
                refine JL_loadA (vs := [_, _, _, _, _, _]) 3 ty28 rfl rfl ⟨rfl, rfl, rfl, rfl, rfl, rfl, trivial⟩ ?_
                exact JL_nil (JE_stepV rfl ss0))), OblS_V (fun vals ex ψ => (by
                refine JL_normQ ⟨93, [(76, _), (77, _), (78, _), (79, _), (80, _), (81, _), (82, _), (83, _), (84, _), (85, _), (86, _), (87, _), (88, _), (89, _), (90, _)], _⟩ (_ :: _ :: _ :: _ :: _ :: _ :: _ :: _ :: _ :: _ :: _ :: _ :: _ :: _ :: _ :: _ :: _ :: _ :: ψ) rfl rfl ?_
                refine JL_guard_yes rfl rfl ?_
                refine JL_loadA (vs := [_, _, _, _, _, _]) 1 ty28 rfl rfl ⟨rfl, rfl, rfl, rfl, rfl, rfl, trivial⟩ ?_
                exact JL_nil (JE_stepV rfl ss0))), trivial⟩ (by kernel_rfl) (fun vals bs => ?_)
            refine JL_normL [_, _, _] ⟨93, [(76, _), (77, _), (78, _), (79, _), (80, _), (81, _), (82, _), (83, _), (84, _), (85, _), (86, _), (87, _), (88, _), (89, _), (90, _)], _⟩ [box _ _ [_, _, _, _, _, _], box _ _ [_, _, _, _, _, _], osl _ _ _ _ _ _, box _ _ [_, _, _, _, _, _], box _ _ [_, _, _, _, _, _], box _ _ [_, _, _]] [_, _, _, _, _, _, _, _, _, _, _, _, _, _, _, _, _, _, _, _, _] rfl rfl rfl rfl ?_
            generalize vals (0 + 1 + 1) = x78
            generalize vals (0 + 1 + 1 + 1 + 1 + 1) = x81
            generalize vals (0 + 1 + 1 + 1 + 1 + 1 + 1 + 1 + 1 + 1 + 1) = x86
            refine JL_guard_yes rfl rfl ?_
            refine JL_callF' (Asks.cons (by first | exact holds_of_mem (by repeat (first | with_reducible exact mm0 | refine mmS ?_)) | (exact holds_of_own 2 rfl)) (Asks.cons (by first | exact holds_of_mem (by repeat (first | with_reducible exact mm0 | refine mmS ?_)) | (exact holds_of_own 2 rfl)) (Asks.cons (by first | exact holds_of_mem (by repeat (first | with_reducible exact mm0 | refine mmS ?_)) | (exact holds_of_own 2 rfl)) (Asks.cons (by first | exact holds_of_mem (by repeat (first | with_reducible exact mm0 | refine mmS ?_)) | (exact holds_of_own 2 rfl)) (Asks.cons (by first | exact holds_of_mem (by repeat (first | with_reducible exact mm0 | refine mmS ?_)) | (exact holds_of_own 2 rfl)) (Asks.cons (by first | exact holds_of_mem (by repeat (first | with_reducible exact mm0 | refine mmS ?_)) | (exact holds_of_own 2 rfl)) (Asks.cons (by first | exact holds_of_mem (by repeat (first | with_reducible exact mm0 | refine mmS ?_)) | (exact holds_of_own 2 rfl)) (Asks.cons (by first | exact holds_of_mem (by repeat (first | with_reducible exact mm0 | refine mmS ?_)) | (exact holds_of_own 2 rfl)) Asks.nil)))))))) (con_true (meets_in2 h23 h28 h57) (lwithin_con (FIn.of (o := onv (mtV q1 q2 q3 q4) (mlo q1 q3)) hC6) (FIn.of (o := onv (mtV q1 q2 q3 q4) (mhi q2 q4)) hD6) (G3.mono (by decide)) (G4.mono (by decide)))) rfl ca23 ⟨rfl, rfl, rfl⟩ ?_
            rintro _ _ ⟨rfl, rfl⟩
            refine JL_pick_t rfl rfl ?_
            refine JL_assign rfl ?_
            refine JL_done_up 93 [box _ _ [_, _, _, _, _, _], box _ _ [_, _, _, _, _, _], osl _ _ _ _ _ _, box _ _ [_, _, _, _, _, _], box _ _ [_, _, _, _, _, _], box _ _ [_, _, _]] [_, _, _, _, _, _, _, _, _, _, _, _, _, _, _, _, _, _, _, _, _] rfl rfl (by simp only [upd_pend, upd_base, flatP, updV_zero, updV_succ]; rfl) rfl rfl ?_
            refine JC_ret ?_
            refine JE_ret (vs := [_]) [] Tryd.results7 ⟨rfl, rfl⟩ ?_ ?_
            · exact ⟨rfl, rfl⟩
            · exact all_nil
      · refine JL_guard_yes rfl rfl ?_
        refine JL_not rfl ?_
        rw [Bool.not_false]
        refine JL_pick_f rfl rfl ?_
        refine JL_done_up 93 [box _ _ [_, _, _, _, _, _], box _ _ [_, _, _, _, _, _], osl _ _ _ _ _ _] [_, _, _, _, _, _, _, _] rfl rfl (by simp only [upd_pend, upd_base, flatP, updV_zero, updV_succ]; rfl) rfl rfl ?_
        refine JC_true rfl ?_
        refine JC_seq ?_
        refine JC_region ?_
        refine JL_callF' Asks.nil (lawake_con) rfl ca8 rfl ?_
        rintro _ _ ⟨rfl, rfl⟩
        refine JL_assign rfl ?_
        refine JL_done_up 93 [box _ _ [_, _, _, _, _, _], box _ _ [_, _, _, _, _, _], osl _ _ _ _ _ _] [_, _, _, _, _, _, _, _] rfl rfl (by simp only [upd_pend, upd_base, flatP, updV_zero, updV_succ]; rfl) rfl rfl ?_
        refine JC_ret ?_
        refine JE_then_ret ?_
        refine JE_ret (vs := [_]) [] Tryd.results7 ⟨rfl, rfl⟩ ?_ ?_
        · exact ⟨rfl, rfl⟩
        · exact all_nil
    · refine JL_guard_yes rfl rfl ?_
      refine JL_not rfl ?_
      rw [Bool.not_false]
      refine JL_pick_f rfl rfl ?_
      refine JL_move rfl ?_
      refine JL_guard_no rfl rfl ?_
      refine JL_guard_no rfl rfl ?_
      refine JL_guard_no rfl rfl ?_
      refine JL_pick_t rfl rfl ?_
      refine JL_done_up 93 [box _ _ [_, _, _, _, _, _], box _ _ [_, _, _, _, _, _], osl _ _ _ _ _ _] [_, _, _, _, _, _, _, _] rfl rfl (by simp only [upd_pend, upd_base, flatP, updV_zero, updV_succ]; rfl) rfl rfl ?_
      refine JC_true rfl ?_
      refine JC_seq ?_
      refine JC_region ?_
      refine JL_callF' Asks.nil (lawake_con) rfl ca8 rfl ?_
      rintro _ _ ⟨rfl, rfl⟩
      refine JL_assign rfl ?_
      refine JL_done_up 93 [box _ _ [_, _, _, _, _, _], box _ _ [_, _, _, _, _, _], osl _ _ _ _ _ _] [_, _, _, _, _, _, _, _] rfl rfl (by simp only [upd_pend, upd_base, flatP, updV_zero, updV_succ]; rfl) rfl rfl ?_
      refine JC_ret ?_
      refine JE_then_ret ?_
      refine JE_ret (vs := [_]) [] Tryd.results7 ⟨rfl, rfl⟩ ?_ ?_
      · exact ⟨rfl, rfl⟩
      · exact all_nil
  · refine JL_guard_yes rfl rfl ?_
    refine JL_not rfl ?_
    rw [Bool.not_false]
    refine JL_pick_f rfl rfl ?_
    refine JL_move rfl ?_
    refine JL_guard_no rfl rfl ?_
    refine JL_guard_no rfl rfl ?_
    refine JL_guard_no rfl rfl ?_
    refine JL_pick_t rfl rfl ?_
    refine JL_move rfl ?_
    refine JL_guard_no rfl rfl ?_
    refine JL_guard_no rfl rfl ?_
    refine JL_guard_no rfl rfl ?_
    refine JL_pick_t rfl rfl ?_
    refine JL_done_up 93 [box _ _ [_, _, _, _, _, _], box _ _ [_, _, _, _, _, _], osl _ _ _ _ _ _] [_, _, _, _, _, _, _, _] rfl rfl (by simp only [upd_pend, upd_base, flatP, updV_zero, updV_succ]; rfl) rfl rfl ?_
    refine JC_true rfl ?_
    refine JC_seq ?_
    refine JC_region ?_
    refine JL_callF' Asks.nil (lawake_con) rfl ca8 rfl ?_
    rintro _ _ ⟨rfl, rfl⟩
    refine JL_assign rfl ?_
    refine JL_done_up 93 [box _ _ [_, _, _, _, _, _], box _ _ [_, _, _, _, _, _], osl _ _ _ _ _ _] [_, _, _, _, _, _, _, _] rfl rfl (by simp only [upd_pend, upd_base, flatP, updV_zero, updV_succ]; rfl) rfl rfl ?_
    refine JC_ret ?_
    refine JE_then_ret ?_
    refine JE_ret (vs := [_]) [] Tryd.results7 ⟨rfl, rfl⟩ ?_ ?_
    · exact ⟨rfl, rfl⟩
    · exact all_nil

end Go.Fw.K
