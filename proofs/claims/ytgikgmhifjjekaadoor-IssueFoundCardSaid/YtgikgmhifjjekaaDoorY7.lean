/- Walks through functions of the given program: each meets its contract. (Printed by a program of this repo.) -/
import Derived.Test.YtgikgmhifjjekaaDoorX2
import Derived.Test.YtgikgmhifjjekaaDoorL2
import Derived.Test.YtgikgmhifjjekaaDoorI2
import Derived.Test.YtgikgmhifjjekaaDoorJ1
import Derived.Test.YtgikgmhifjjekaaDoorFrF
import Derived.Test.YtgikgmhifjjekaaDoorProg
namespace Go.Fw.Y7
open Go Go.RowKit Go.Proofs Go.Nat9 Go.Fw
attribute [local irreducible] JC JL JE
theorem ar37 : arOf Tryd.prog 37 = some (2, 1) := by kernel_rfl
theorem ca10 : callable Tryd.prog 10 = true := by kernel_rfl
theorem ca14 : callable Tryd.prog 14 = true := by kernel_rfl
theorem ca15 : callable Tryd.prog 15 = true := by kernel_rfl
theorem ca16 : callable Tryd.prog 16 = true := by kernel_rfl
theorem ca17 : callable Tryd.prog 17 = true := by kernel_rfl
theorem ca18 : callable Tryd.prog 18 = true := by kernel_rfl
theorem ca19 : callable Tryd.prog 19 = true := by kernel_rfl
theorem ca20 : callable Tryd.prog 20 = true := by kernel_rfl
theorem ca8 : callable Tryd.prog 8 = true := by kernel_rfl
theorem ca9 : callable Tryd.prog 9 = true := by kernel_rfl
theorem fo28_0 : fOf Tryd.prog 28 0 = some 0 := by kernel_rfl
theorem fo28_1 : fOf Tryd.prog 28 1 = some 3 := by kernel_rfl
theorem mixed : Tryd.prog.follows .mixedOrders = true := by kernel_rfl
theorem sl54 : slOf Tryd.prog 54 = some (28, 6, 112, [.bool false, .slice none 0 0, .slice none 0 0, .bool false, .slice none 0 0, .slice none 0 0]) := by kernel_rfl
theorem ty26 : tyOf Tryd.prog 26 = some (true, 3) := by kernel_rfl
theorem ty28 : tyOf Tryd.prog 28 = some (true, 6) := by kernel_rfl
theorem ty5 : tyOf Tryd.prog 5 = some (false, 1) := by kernel_rfl
theorem z26 : zeroOf Tryd.prog 26 = some [.bool false, .slice none 0 0, .slice none 0 0] := by kernel_rfl
theorem z28 : zeroOf Tryd.prog 28 = some [.bool false, .slice none 0 0, .slice none 0 0, .bool false, .slice none 0 0, .slice none 0 0] := by kernel_rfl
end Go.Fw.Y7
namespace Go.Fw.K
open Go Go.RowKit Go.Proofs Go.Nat9 Go.Fw Go.Fw.Y7
attribute [local irreducible] JC JL JE

set_option maxHeartbeats 8000000 in
set_option maxRecDepth 20000 in
theorem issueFound_con {s1 : Bool} {ad1 : Option Addr} {n1 c1 : Nat} {L1 : List Nat} {be1 : Option Addr} {m1 e1 : Nat} {M1 : List Nat} (r1 : RIn n1 L1 m1 M1) {s2 : Bool} {ad2 : Option Addr} {n2 c2 : Nat} {L2 : List Nat} {be2 : Option Addr} {m2 e2 : Nat} {M2 : List Nat} (r2 : RIn n2 L2 m2 M2) {s3 : Bool} {ad3 : Option Addr} {n3 c3 : Nat} {L3 : List Nat} {be3 : Option Addr} {m3 e3 : Nat} {M3 : List Nat} (r3 : RIn n3 L3 m3 M3) {s4 : Bool} {ad4 : Option Addr} {n4 c4 : Nat} {L4 : List Nat} {be4 : Option Addr} {m4 e4 : Nat} {M4 : List Nat} (r4 : RIn n4 L4 m4 M4) {ka : Nat} (hka : ka < 256) {kb : Nat} (hkb : kb < 256) :
    ConF Tryd.prog 4 [.agg #[.bool s1, .slice ad1 n1 c1, .slice be1 m1 e1, .bool s2, .slice ad2 n2 c2, .slice be2 m2 e2], .agg #[.bool s3, .slice ad3 n3 c3, .slice be3 m3 e3, .bool s4, .slice ad4 n4 c4, .slice be4 m4 e4], .agg #[.int .u8 (ka : Nat), .int .u8 (kb : Nat)]] [vCells ad1 (u32s L1), vCells be1 (u32s M1), vCells ad2 (u32s L2), vCells be2 (u32s M2), vCells ad3 (u32s L3), vCells be3 (u32s M3), vCells ad4 (u32s L4), vCells be4 (u32s M4)]
      (fun v φo => v = .bool true ∧ φo = []) := by
  refine ConF_of Tryd.func4 rfl 101 _ rfl rfl ?_
  intro w0
  refine JC_norm ⟨101, [], [_, _, _, _, _, _, _, _, _, _, _, _, _, _, _, _, _, _, _, _, _, _, _, _, _, _, _, _, _, _, _, _, _, _, _, _, _, _, _, _, _, _, _, _, _, _, _, _, _, _, _, _, _, _, _, _, _, _, _, _, _, _, _, _, _, _, _, _, _, _, _, _, _, _, _, _, _, _, _, _, _, _, _, _, _, _, _, _, _, _, _, _, _, _, _, _, _, _, _, _, _]⟩ [] [_, _, _, _, _, _, _, _] rfl rfl rfl ?_
  refine JC_seq ?_
  refine JC_region ?_
  refine JL_box rfl rfl (fun b3 => ?_)
  refine JL_box rfl rfl (fun b4 => ?_)
  refine JL_box rfl rfl (fun b5 => ?_)
  refine JL_assign rfl ?_
  refine JL_done_up 101 [box _ _ [_, _, _, _, _, _], box _ _ [_, _, _, _, _, _], box _ _ [_, _]] [_, _, _, _, _, _, _, _] rfl rfl (by simp only [upd_pend, upd_base, flatP, updV_zero, updV_succ]; rfl) rfl rfl ?_
  refine JC_seq ?_
  refine JC_seq ?_
  refine JC_region ?_
  refine JL_callF' Asks.nil (lawake_con) rfl ca8 rfl ?_
  rintro _ _ ⟨rfl, rfl⟩
  refine JL_not rfl ?_
  rw [Bool.not_true]
  refine JL_move rfl ?_
  refine JL_guard_yes rfl rfl ?_
  refine JL_loadA (vs := [_, _, _, _, _, _]) 0 ty28 rfl rfl ⟨rfl, rfl, rfl, rfl, rfl, rfl, trivial⟩ ?_
  refine JL_guard_yes rfl rfl ?_
  refine JL_loadA (vs := [_, _, _, _, _, _]) 1 ty28 rfl rfl ⟨rfl, rfl, rfl, rfl, rfl, rfl, trivial⟩ ?_
  refine JL_guard_yes rfl rfl ?_
  refine JL_buildN (cs0 := [.bool false, .slice none 0 0, .slice none 0 0, .bool false, .slice none 0 0, .slice none 0 0, .bool false, .slice none 0 0, .slice none 0 0, .bool false, .slice none 0 0, .slice none 0 0]) (cs := [_, _, _, _, _, _, _, _, _, _, _, _]) [(0, [_, _, _, _, _, _]), (1, [_, _, _, _, _, _])] sl54 (by kernel_rfl) ⟨⟨rfl, _, rfl, rfl⟩, ⟨rfl, _, rfl, rfl⟩, rfl⟩ rfl rfl rfl rfl (fun g18 => ?_)
  refine JL_guard_yes rfl rfl ?_
  refine JL_callF' (Asks.cons (by first | exact holds_of_mem (by repeat (first | with_reducible exact mm0 | refine mmS ?_)) | (exact holds_of_own 3 rfl)) Asks.nil) (lfew_con (l := [⟨s1, ad1, n1, c1, be1, m1, e1, s2, ad2, n2, c2, be2, m2, e2⟩, ⟨s3, ad3, n3, c3, be3, m3, e3, s4, ad4, n4, c4, be4, m4, e4⟩]) rfl (Nat.le_of_ble_eq_true rfl)) rfl ca9 ⟨rfl, rfl⟩ ?_
  rintro _ _ ⟨b19, rfl, rfl, hb19⟩
  refine JL_splitV (fun h19 => ?_) (fun h19 => ?_)
  · have hk := hb19 h19
    obtain ⟨a1, b1, a2, b2⟩ : n1 ≤ 4 ∧ m1 ≤ 4 ∧ n2 ≤ 4 ∧ m2 ≤ 4 := hk 0 (Nat.le_of_ble_eq_true rfl)
    have G1 := r1.fin (s := s1) a1 b1
    have hq1 := G1.qs
    obtain ⟨q1, hQ1⟩ : ∃ q, mkq s1 (val L1) (val M1) = q := ⟨_, rfl⟩
    rw [hQ1] at G1 hq1
    have G2 := r2.fin (s := s2) a2 b2
    have hq2 := G2.qs
    obtain ⟨q2, hQ2⟩ : ∃ q, mkq s2 (val L2) (val M2) = q := ⟨_, rfl⟩
    rw [hQ2] at G2 hq2
    obtain ⟨a3, b3, a4, b4⟩ : n3 ≤ 4 ∧ m3 ≤ 4 ∧ n4 ≤ 4 ∧ m4 ≤ 4 := hk 1 (Nat.le_of_ble_eq_true rfl)
    have G3 := r3.fin (s := s3) a3 b3
    have hq3 := G3.qs
    obtain ⟨q3, hQ3⟩ : ∃ q, mkq s3 (val L3) (val M3) = q := ⟨_, rfl⟩
    rw [hQ3] at G3 hq3
    have G4 := r4.fin (s := s4) a4 b4
    have hq4 := G4.qs
    obtain ⟨q4, hQ4⟩ : ∃ q, mkq s4 (val L4) (val M4) = q := ⟨_, rfl⟩
    rw [hQ4] at G4 hq4
    refine JL_guard_yes rfl rfl ?_
    refine JL_not rfl ?_
    rw [Bool.not_true]
    refine JL_pick_f rfl rfl ?_
    refine JL_move rfl ?_
    refine JL_guard_yes rfl rfl ?_
    refine JL_loadA (vs := [_, _, _, _, _, _]) 0 ty28 rfl rfl ⟨rfl, rfl, rfl, rfl, rfl, rfl, trivial⟩ ?_
    refine JL_guard_yes rfl rfl ?_
    refine JL_callF' (Asks.cons (by first | exact holds_of_mem (by repeat (first | with_reducible exact mm0 | refine mmS ?_)) | (exact holds_of_own 3 rfl)) (Asks.cons (by first | exact holds_of_mem (by repeat (first | with_reducible exact mm0 | refine mmS ?_)) | (exact holds_of_own 3 rfl)) (Asks.cons (by first | exact holds_of_mem (by repeat (first | with_reducible exact mm0 | refine mmS ?_)) | (exact holds_of_own 3 rfl)) (Asks.cons (by first | exact holds_of_mem (by repeat (first | with_reducible exact mm0 | refine mmS ?_)) | (exact holds_of_own 3 rfl)) Asks.nil)))) (rvalid_con (G1.mono (by decide)) (G2.mono (by decide))) rfl ca10 ⟨rfl, rfl⟩ ?_
    rintro _ _ ⟨rfl, rfl⟩
    refine JL_splitV (fun h24 => ?_) (fun h24 => ?_)
    · refine JL_guard_yes rfl rfl ?_
      refine JL_not rfl ?_
      rw [Bool.not_true]
      refine JL_pick_f rfl rfl ?_
      refine JL_move rfl ?_
      refine JL_guard_yes rfl rfl ?_
      refine JL_loadA (vs := [_, _, _, _, _, _]) 1 ty28 rfl rfl ⟨rfl, rfl, rfl, rfl, rfl, rfl, trivial⟩ ?_
      refine JL_guard_yes rfl rfl ?_
      refine JL_callF' (Asks.cons (by first | exact holds_of_mem (by repeat (first | with_reducible exact mm0 | refine mmS ?_)) | (exact holds_of_own 3 rfl)) (Asks.cons (by first | exact holds_of_mem (by repeat (first | with_reducible exact mm0 | refine mmS ?_)) | (exact holds_of_own 3 rfl)) (Asks.cons (by first | exact holds_of_mem (by repeat (first | with_reducible exact mm0 | refine mmS ?_)) | (exact holds_of_own 3 rfl)) (Asks.cons (by first | exact holds_of_mem (by repeat (first | with_reducible exact mm0 | refine mmS ?_)) | (exact holds_of_own 3 rfl)) Asks.nil)))) (rvalid_con (G3.mono (by decide)) (G4.mono (by decide))) rfl ca10 ⟨rfl, rfl⟩ ?_
      rintro _ _ ⟨rfl, rfl⟩
      refine JL_splitV (fun h29 => ?_) (fun h29 => ?_)
      · have hX : qs (ins q1 q2 ka) 100 := qs_ins hq1 hq2 ka (by decide)
        have hY : qs (ins q3 q4 kb) 100 := qs_ins hq3 hq4 kb (by decide)
        have hU1 : qs (fval (onv (svV q1 q2 q3 q4) (fval (dvq q1 q4)))) 100 := qs_onv (qs_dvq hq1 hq4 (by decide))
        have hU2 : qs (fval (onv (svV q1 q2 q3 q4) (svH q2 q3))) 100 := qs_onv (qs_svH hq2 hq3 (by decide))
        have hQ : qs (fval (dvq (ins q1 q2 ka) (ins q3 q4 kb))) 1000 := qs_dvq hX hY (by decide)
        have hO := qs_ofq 1 1 (by decide) (by decide)
        refine JL_guard_yes rfl rfl ?_
        refine JL_not rfl ?_
        rw [Bool.not_true]
        refine JL_pick_f rfl rfl ?_
        refine JL_done_up 101 [box _ _ [_, _, _, _, _, _], box _ _ [_, _, _, _, _, _], box _ _ [_, _], osl _ _ _ _ _ _] [_, _, _, _, _, _, _, _] rfl rfl (by simp only [upd_pend, upd_base, flatP, updV_zero, updV_succ]; rfl) rfl rfl ?_
        refine JC_false rfl ?_
        refine JC_skip ?_
        refine JE_then ?_
        refine JC_seq ?_
        refine JC_region ?_
        refine JL_loadA (vs := [_, _, _, _, _, _]) 0 ty28 rfl rfl ⟨rfl, rfl, rfl, rfl, rfl, rfl, trivial⟩ ?_
        refine JL_loadA (vs := [_, _, _, _, _, _]) 1 ty28 rfl rfl ⟨rfl, rfl, rfl, rfl, rfl, rfl, trivial⟩ ?_
        refine JL_callF' (Asks.cons (by first | exact holds_of_mem (by repeat (first | with_reducible exact mm0 | refine mmS ?_)) | (exact holds_of_own 3 rfl)) (Asks.cons (by first | exact holds_of_mem (by repeat (first | with_reducible exact mm0 | refine mmS ?_)) | (exact holds_of_own 3 rfl)) (Asks.cons (by first | exact holds_of_mem (by repeat (first | with_reducible exact mm0 | refine mmS ?_)) | (exact holds_of_own 3 rfl)) (Asks.cons (by first | exact holds_of_mem (by repeat (first | with_reducible exact mm0 | refine mmS ?_)) | (exact holds_of_own 3 rfl)) (Asks.cons (by first | exact holds_of_mem (by repeat (first | with_reducible exact mm0 | refine mmS ?_)) | (exact holds_of_own 3 rfl)) (Asks.cons (by first | exact holds_of_mem (by repeat (first | with_reducible exact mm0 | refine mmS ?_)) | (exact holds_of_own 3 rfl)) (Asks.cons (by first | exact holds_of_mem (by repeat (first | with_reducible exact mm0 | refine mmS ?_)) | (exact holds_of_own 3 rfl)) (Asks.cons (by first | exact holds_of_mem (by repeat (first | with_reducible exact mm0 | refine mmS ?_)) | (exact holds_of_own 3 rfl)) Asks.nil)))))))) (isurvival_con (G1.mono (by decide)) (G2.mono (by decide)) (G3.mono (by decide)) (G4.mono (by decide))) rfl ca14 ⟨rfl, rfl, rfl⟩ ?_
        rintro _ _ ⟨ad36, cp36, be36, ce36, af36, cq36, bg36, cf36, rfl, rfl⟩
        refine JL_move rfl ?_
        refine JL_extract rfl rfl ?_
        refine JL_extract rfl rfl ?_
        refine JL_alloc z28 (fun b7 => ?_)
        refine JL_store (vs := [_, _, _, _, _, _]) 4 ty28 rfl rfl rfl (AllOne.cons rfl (AllOne.cons rfl (AllOne.cons rfl (AllOne.cons rfl (AllOne.cons rfl (AllOne.cons rfl AllOne.nil)))))) rfl (Nat.le_of_ble_eq_true rfl) ?_
        refine JL_assign rfl ?_
        refine JL_done_up 101 [box _ _ [_, _, _, _, _, _], box _ _ [_, _, _, _, _, _], box _ _ [_, _], osl _ _ _ _ _ _, box _ _ [_, _, _, _, _, _]] [_, _, _, _, _, _, _, _, _, _, _, _] rfl rfl (by simp only [upd_pend, upd_base, flatP, updV_zero, updV_succ]; rfl) rfl rfl ?_
        refine JC_seq ?_
        refine JC_drawT mixed 10 [spV 39 [] _, spV 40 [] _, spV 41 [1] _, spC 42 [0, 2] _, spV 43 [] _, spV 44 [] _, spV 45 [5] _, spC 46 [4, 6] _, spA 9 26 [.bool false, .slice none 0 0, .slice none 0 0], spA 10 26 [.bool false, .slice none 0 0, .slice none 0 0]] ⟨OblS_V (fun vals ex ψ => (by
            refine JL_normQ ⟨101, [(39, _), (40, _), (41, _), (42, _), (43, _), (44, _), (45, _), (46, _), (9, _), (10, _)], _⟩ (_ :: _ :: _ :: _ :: _ :: _ :: _ :: _ :: _ :: _ :: _ :: _ :: ψ) rfl rfl ?_
            refine JL_loadA (vs := [_, _, _, _, _, _]) 0 ty28 rfl rfl ⟨rfl, rfl, rfl, rfl, rfl, rfl, trivial⟩ ?_
            exact JL_nil (JE_stepV rfl ss0))), OblS_V (fun vals ex ψ => (by
            refine JL_normQ ⟨101, [(39, _), (40, _), (41, _), (42, _), (43, _), (44, _), (45, _), (46, _), (9, _), (10, _)], _⟩ (_ :: _ :: _ :: _ :: _ :: _ :: _ :: _ :: _ :: _ :: _ :: _ :: ψ) rfl rfl ?_
            refine JL_idxArr 0 ar37 rfl rfl rfl (by decide) ?_
            exact JL_nil (JE_stepV rfl ss0))), OblS_V (fun vals ex ψ => (by
            refine JL_normQ ⟨101, [(39, _), (40, _), (41, _), (42, _), (43, _), (44, _), (45, _), (46, _), (9, _), (10, _)], _⟩ (_ :: _ :: _ :: _ :: _ :: _ :: _ :: _ :: _ :: _ :: _ :: _ :: ψ) rfl rfl ?_
            refine JL_load 2 ty5 rfl rfl rfl ?_
            exact JL_nil (JE_stepV rfl ss0))), OblS_C (fun vals ex ψ => (by
            refine JL_normQ ⟨101, [(39, _), (40, _), (41, _), (42, _), (43, _), (44, _), (45, _), (46, _), (9, _), (10, _)], _⟩ (_ :: _ :: _ :: _ :: _ :: _ :: _ :: _ :: _ :: _ :: _ :: _ :: ψ) rfl rfl ?_
            refine JL_callF' (Asks.cons (by first | exact holds_of_mem (by repeat (first | with_reducible exact mm0 | refine mmS ?_)) | (exact holds_of_own 3 rfl)) (Asks.cons (by first | exact holds_of_mem (by repeat (first | with_reducible exact mm0 | refine mmS ?_)) | (exact holds_of_own 3 rfl)) (Asks.cons (by first | exact holds_of_mem (by repeat (first | with_reducible exact mm0 | refine mmS ?_)) | (exact holds_of_own 3 rfl)) (Asks.cons (by first | exact holds_of_mem (by repeat (first | with_reducible exact mm0 | refine mmS ?_)) | (exact holds_of_own 3 rfl)) Asks.nil)))) (linside_con (G1.mono (by decide)) (G2.mono (by decide)) ka hka) rfl ca15 ⟨rfl, rfl, rfl⟩ ?_
            exact fun v φo hP => JL_nil (JE_stepC φo rfl hP (fun p hp => mapB_l hp) (fun p hp => mapB_r (ss0 p hp))))), OblS_V (fun vals ex ψ => (by
            refine JL_normQ ⟨101, [(39, _), (40, _), (41, _), (42, _), (43, _), (44, _), (45, _), (46, _), (9, _), (10, _)], _⟩ (_ :: _ :: _ :: _ :: _ :: _ :: _ :: _ :: _ :: _ :: _ :: _ :: ψ) rfl rfl ?_
            refine JL_loadA (vs := [_, _, _, _, _, _]) 1 ty28 rfl rfl ⟨rfl, rfl, rfl, rfl, rfl, rfl, trivial⟩ ?_
            exact JL_nil (JE_stepV rfl ss0))), OblS_V (fun vals ex ψ => (by
            refine JL_normQ ⟨101, [(39, _), (40, _), (41, _), (42, _), (43, _), (44, _), (45, _), (46, _), (9, _), (10, _)], _⟩ (_ :: _ :: _ :: _ :: _ :: _ :: _ :: _ :: _ :: _ :: _ :: _ :: ψ) rfl rfl ?_
            refine JL_idxArr 1 ar37 rfl rfl rfl (by decide) ?_
            exact JL_nil (JE_stepV rfl ss0))), OblS_V (fun vals ex ψ => (by
            refine JL_normQ ⟨101, [(39, _), (40, _), (41, _), (42, _), (43, _), (44, _), (45, _), (46, _), (9, _), (10, _)], _⟩ (_ :: _ :: _ :: _ :: _ :: _ :: _ :: _ :: _ :: _ :: _ :: _ :: ψ) rfl rfl ?_
            refine JL_load 2 ty5 rfl rfl rfl ?_
            exact JL_nil (JE_stepV rfl ss0))), OblS_C (fun vals ex ψ => (by
            refine JL_normQ ⟨101, [(39, _), (40, _), (41, _), (42, _), (43, _), (44, _), (45, _), (46, _), (9, _), (10, _)], _⟩ (_ :: _ :: _ :: _ :: _ :: _ :: _ :: _ :: _ :: _ :: _ :: _ :: ψ) rfl rfl ?_
            refine JL_callF' (Asks.cons (by first | exact holds_of_mem (by repeat (first | with_reducible exact mm0 | refine mmS ?_)) | (exact holds_of_own 3 rfl)) (Asks.cons (by first | exact holds_of_mem (by repeat (first | with_reducible exact mm0 | refine mmS ?_)) | (exact holds_of_own 3 rfl)) (Asks.cons (by first | exact holds_of_mem (by repeat (first | with_reducible exact mm0 | refine mmS ?_)) | (exact holds_of_own 3 rfl)) (Asks.cons (by first | exact holds_of_mem (by repeat (first | with_reducible exact mm0 | refine mmS ?_)) | (exact holds_of_own 3 rfl)) Asks.nil)))) (linside_con (G3.mono (by decide)) (G4.mono (by decide)) kb hkb) rfl ca15 ⟨rfl, rfl, rfl⟩ ?_
            exact fun v φo hP => JL_nil (JE_stepC φo rfl hP (fun p hp => mapB_l hp) (fun p hp => mapB_r (ss0 p hp))))), OblS_al rfl z26, OblS_al rfl z26, trivial⟩ (by kernel_rfl) (fun vals bs => ?_)
        refine JL_normL [_, _] ⟨101, [(39, _), (40, _), (41, _), (42, _), (43, _), (44, _), (45, _), (46, _), (9, _), (10, _)], _⟩ [box _ _ [_, _, _, _, _, _], box _ _ [_, _, _, _, _, _], box _ _ [_, _], osl _ _ _ _ _ _, box _ _ [_, _, _, _, _, _], box _ _ [_, _, _], box _ _ [_, _, _]] [_, _, _, _, _, _, _, _, _, _, _, _, _, _] rfl rfl rfl rfl ?_
        generalize vals (0 + 1 + 1 + 1) = x42
        generalize vals (0 + 1 + 1 + 1 + 1 + 1 + 1 + 1) = x46
        generalize bs (0 + 1 + 1 + 1 + 1 + 1 + 1 + 1 + 1) = b9
        generalize bs (0 + 1 + 1 + 1 + 1 + 1 + 1 + 1 + 1 + 1) = b10
        refine JL_usePost mm0 (fun φo hP => ?_)
        obtain ⟨ad42, cp42, be42, ce42, rfl, rfl⟩ := hP
        refine JL_norm _ [box _ _ [_, _, _, _, _, _], box _ _ [_, _, _, _, _, _], box _ _ [_, _], osl _ _ _ _ _ _, box _ _ [_, _, _, _, _, _], box _ _ [_, _, _], box _ _ [_, _, _]] [_, _, _, _, _, _, _, _, _, _, _, _, _, _, _, _] rfl rfl rfl ?_
        refine JL_usePost (mmS (mmS (mmS mm0))) (fun φo hP => ?_)
        obtain ⟨ad46, cp46, be46, ce46, rfl, rfl⟩ := hP
        refine JL_norm _ [box _ _ [_, _, _, _, _, _], box _ _ [_, _, _, _, _, _], box _ _ [_, _], osl _ _ _ _ _ _, box _ _ [_, _, _, _, _, _], box _ _ [_, _, _], box _ _ [_, _, _]] [_, _, _, _, _, _, _, _, _, _, _, _, _, _, _, _, _, _] rfl rfl rfl ?_
        refine JL_store (vs := [_, _, _]) 5 ty26 rfl rfl rfl (AllOne.cons rfl (AllOne.cons rfl (AllOne.cons rfl AllOne.nil))) rfl (Nat.le_of_ble_eq_true rfl) ?_
        refine JL_store (vs := [_, _, _]) 6 ty26 rfl rfl rfl (AllOne.cons rfl (AllOne.cons rfl (AllOne.cons rfl AllOne.nil))) rfl (Nat.le_of_ble_eq_true rfl) ?_
        refine JL_done_up 101 [box _ _ [_, _, _, _, _, _], box _ _ [_, _, _, _, _, _], box _ _ [_, _], osl _ _ _ _ _ _, box _ _ [_, _, _, _, _, _], box _ _ [_, _, _], box _ _ [_, _, _]] [_, _, _, _, _, _, _, _, _, _, _, _, _, _, _, _, _, _] rfl rfl (by simp only [upd_pend, upd_base, flatP, updV_zero, updV_succ]; rfl) rfl rfl ?_
        refine JC_seq ?_
        refine JC_seq ?_
        refine JC_region ?_
        refine JL_fieldAddr fo28_0 rfl ?_
        refine JL_loadA (vs := [_, _, _]) 1 ty26 rfl rfl ⟨rfl, rfl, rfl, trivial⟩ ?_
        refine JL_callF' (Asks.cons (by first | exact holds_of_mem (by repeat (first | with_reducible exact mm0 | refine mmS ?_)) | (exact holds_of_own 3 rfl)) (Asks.cons (by first | exact holds_of_mem (by repeat (first | with_reducible exact mm0 | refine mmS ?_)) | (exact holds_of_own 3 rfl)) Asks.nil)) (fsign_con (G3.mono (by decide))) rfl ca16 ⟨rfl, rfl⟩ ?_
        rintro _ _ ⟨rfl, rfl⟩
        refine JL_eql rfl rfl ?_
        refine JL_split (fun h50 => ?_) (fun h50 => ?_)
        · refine JL_done_up 101 [box _ _ [_, _, _, _, _, _], box _ _ [_, _, _, _, _, _], box _ _ [_, _], osl _ _ _ _ _ _, box _ _ [_, _, _, _, _, _], box _ _ [_, _, _], box _ _ [_, _, _]] [_, _, _, _, _, _, _, _, _, _, _, _, _, _, _, _, _, _] rfl rfl (by simp only [upd_pend, upd_base, flatP, updV_zero, updV_succ]; rfl) rfl rfl ?_
          refine JC_true rfl ?_
          refine JC_seq ?_
          refine JC_region ?_
          refine JL_move rfl ?_
          refine JL_eql rfl rfl ?_
          refine JL_split (fun h52 => ?_) (fun h52 => ?_)
          · refine JL_assign rfl ?_
            refine JL_done_up 101 [box _ _ [_, _, _, _, _, _], box _ _ [_, _, _, _, _, _], box _ _ [_, _], osl _ _ _ _ _ _, box _ _ [_, _, _, _, _, _], box _ _ [_, _, _], box _ _ [_, _, _]] [_, _, _, _, _, _, _, _, _, _, _, _, _, _, _, _, _, _] rfl rfl (by simp only [upd_pend, upd_base, flatP, updV_zero, updV_succ]; rfl) rfl rfl ?_
            refine JC_ret ?_
            refine JE_then_ret ?_
            refine JE_ret (vs := [_]) [] Tryd.results4 ⟨rfl, rfl⟩ ?_ ?_
            · exact ⟨rfl, rfl⟩
            · exact all_nil
          · exact absurd (found_zero h24 h29 h50) h52
        · refine JL_done_up 101 [box _ _ [_, _, _, _, _, _], box _ _ [_, _, _, _, _, _], box _ _ [_, _], osl _ _ _ _ _ _, box _ _ [_, _, _, _, _, _], box _ _ [_, _, _], box _ _ [_, _, _]] [_, _, _, _, _, _, _, _, _, _, _, _, _, _, _, _, _, _] rfl rfl (by simp only [upd_pend, upd_base, flatP, updV_zero, updV_succ]; rfl) rfl rfl ?_
          refine JC_false rfl ?_
          refine JC_skip ?_
          refine JE_then ?_
          refine JC_seq ?_
          refine JC_seq ?_
          refine JC_region ?_
          refine JL_loadA (vs := [_, _, _]) 5 ty26 rfl rfl ⟨rfl, rfl, rfl, trivial⟩ ?_
          refine JL_loadA (vs := [_, _, _]) 6 ty26 rfl rfl ⟨rfl, rfl, rfl, trivial⟩ ?_
          refine JL_callF' (Asks.cons (by first | exact holds_of_mem (by repeat (first | with_reducible exact mm0 | refine mmS ?_)) | (exact holds_of_own 3 rfl)) (Asks.cons (by first | exact holds_of_mem (by repeat (first | with_reducible exact mm0 | refine mmS ?_)) | (exact holds_of_own 3 rfl)) (Asks.cons (by first | exact holds_of_mem (by repeat (first | with_reducible exact mm0 | refine mmS ?_)) | (exact holds_of_own 3 rfl)) (Asks.cons (by first | exact holds_of_mem (by repeat (first | with_reducible exact mm0 | refine mmS ?_)) | (exact holds_of_own 3 rfl)) Asks.nil)))) (fcmpq_con (FIn.some (hX.mono (by decide))) (FIn.some (hY.mono (by decide)))) rfl ca17 ⟨rfl, rfl, rfl⟩ ?_
          rintro _ _ ⟨rfl, rfl⟩
          refine JL_gtr rfl rfl ?_
          refine JL_split (fun h56 => ?_) (fun h56 => ?_)
          · refine JL_done_up 101 [box _ _ [_, _, _, _, _, _], box _ _ [_, _, _, _, _, _], box _ _ [_, _], osl _ _ _ _ _ _, box _ _ [_, _, _, _, _, _], box _ _ [_, _, _], box _ _ [_, _, _]] [_, _, _, _, _, _, _, _, _, _, _, _, _, _, _, _, _, _] rfl rfl (by simp only [upd_pend, upd_base, flatP, updV_zero, updV_succ]; rfl) rfl rfl ?_
            refine JC_true rfl ?_
            refine JC_seq ?_
            refine JC_region ?_
            refine JL_move rfl ?_
            refine JL_eql rfl rfl ?_
            refine JL_split (fun h58 => ?_) (fun h58 => ?_)
            · refine JL_move rfl ?_
              refine JL_guard_no rfl rfl ?_
              refine JL_guard_no rfl rfl ?_
              refine JL_guard_no rfl rfl ?_
              refine JL_guard_un rfl rfl ?_
              refine JL_guard_un rfl rfl ?_
              refine JL_guard_un rfl rfl ?_
              refine JL_guard_un rfl rfl ?_
              refine JL_guard_un rfl rfl ?_
              refine JL_guard_un rfl rfl ?_
              refine JL_guard_no rfl rfl ?_
              refine JL_pick_t rfl rfl ?_
              refine JL_assign rfl ?_
              refine JL_done_up 101 [box _ _ [_, _, _, _, _, _], box _ _ [_, _, _, _, _, _], box _ _ [_, _], osl _ _ _ _ _ _, box _ _ [_, _, _, _, _, _], box _ _ [_, _, _], box _ _ [_, _, _]] [_, _, _, _, _, _, _, _, _, _, _, _, _, _, _, _, _, _] rfl rfl (by simp only [upd_pend, upd_base, flatP, updV_zero, updV_succ]; rfl) rfl rfl ?_
              refine JC_ret ?_
              refine JE_then_ret ?_
              refine JE_ret (vs := [_]) [] Tryd.results4 ⟨rfl, rfl⟩ ?_ ?_
              · exact ⟨rfl, rfl⟩
              · exact all_nil
            · refine JL_move rfl ?_
              refine JL_guard_yes rfl rfl ?_
              refine JL_move rfl ?_
              refine JL_guard_yes rfl rfl ?_
              refine JL_eql rfl rfl ?_
              refine JL_split (fun h61 => ?_) (fun h61 => ?_)
              · refine JL_guard_yes rfl rfl ?_
                refine JL_move rfl ?_
                refine JL_guard_yes rfl rfl ?_
                refine JL_fieldAddr fo28_0 rfl ?_
                refine JL_guard_yes rfl rfl ?_
                refine JL_loadA (vs := [_, _, _]) 0 ty26 rfl rfl ⟨rfl, rfl, rfl, trivial⟩ ?_
                refine JL_guard_yes rfl rfl ?_
                refine JL_fieldAddr fo28_1 rfl ?_
                refine JL_guard_yes rfl rfl ?_
                refine JL_loadA (vs := [_, _, _]) 1 ty26 rfl rfl ⟨rfl, rfl, rfl, trivial⟩ ?_
                refine JL_guard_yes rfl rfl ?_
                refine JL_callF' (Asks.cons (by first | exact holds_of_mem (by repeat (first | with_reducible exact mm0 | refine mmS ?_)) | (exact holds_of_own 3 rfl)) (Asks.cons (by first | exact holds_of_mem (by repeat (first | with_reducible exact mm0 | refine mmS ?_)) | (exact holds_of_own 3 rfl)) (Asks.cons (by first | exact holds_of_mem (by repeat (first | with_reducible exact mm0 | refine mmS ?_)) | (exact holds_of_own 3 rfl)) (Asks.cons (by first | exact holds_of_mem (by repeat (first | with_reducible exact mm0 | refine mmS ?_)) | (exact holds_of_own 3 rfl)) Asks.nil)))) (fcmpq_con (G1.mono (by decide)) (G4.mono (by decide))) rfl ca17 ⟨rfl, rfl, rfl⟩ ?_
                rintro _ _ ⟨rfl, rfl⟩
                refine JL_guard_yes rfl rfl ?_
                refine JL_gtr rfl rfl ?_
                refine JL_split (fun h68 => ?_) (fun h68 => ?_)
                · refine JL_guard_yes rfl rfl ?_
                  refine JL_pick_t rfl rfl ?_
                  refine JL_pick_f rfl rfl ?_
                  refine JL_assign rfl ?_
                  refine JL_done_up 101 [box _ _ [_, _, _, _, _, _], box _ _ [_, _, _, _, _, _], box _ _ [_, _], osl _ _ _ _ _ _, box _ _ [_, _, _, _, _, _], box _ _ [_, _, _], box _ _ [_, _, _]] [_, _, _, _, _, _, _, _, _, _, _, _, _, _, _, _, _, _] rfl rfl (by simp only [upd_pend, upd_base, flatP, updV_zero, updV_succ]; rfl) rfl rfl ?_
                  refine JC_ret ?_
                  refine JE_then_ret ?_
                  refine JE_ret (vs := [_]) [] Tryd.results4 ⟨rfl, rfl⟩ ?_ ?_
                  · exact ⟨rfl, rfl⟩
                  · exact all_nil
                · exact absurd (found_ten h24 h29 h50 h58).2 h68
              · exact absurd (found_ten h24 h29 h50 h58).1 h61
          · refine JL_done_up 101 [box _ _ [_, _, _, _, _, _], box _ _ [_, _, _, _, _, _], box _ _ [_, _], osl _ _ _ _ _ _, box _ _ [_, _, _, _, _, _], box _ _ [_, _, _], box _ _ [_, _, _]] [_, _, _, _, _, _, _, _, _, _, _, _, _, _, _, _, _, _] rfl rfl (by simp only [upd_pend, upd_base, flatP, updV_zero, updV_succ]; rfl) rfl rfl ?_
            refine JC_false rfl ?_
            refine JC_skip ?_
            refine JE_then ?_
            refine JC_seq ?_
            refine JC_region ?_
            refine JL_loadA (vs := [_, _, _]) 5 ty26 rfl rfl ⟨rfl, rfl, rfl, trivial⟩ ?_
            refine JL_loadA (vs := [_, _, _]) 6 ty26 rfl rfl ⟨rfl, rfl, rfl, trivial⟩ ?_
            refine JL_callF' (Asks.cons (by first | exact holds_of_mem (by repeat (first | with_reducible exact mm0 | refine mmS ?_)) | (exact holds_of_own 3 rfl)) (Asks.cons (by first | exact holds_of_mem (by repeat (first | with_reducible exact mm0 | refine mmS ?_)) | (exact holds_of_own 3 rfl)) (Asks.cons (by first | exact holds_of_mem (by repeat (first | with_reducible exact mm0 | refine mmS ?_)) | (exact holds_of_own 3 rfl)) (Asks.cons (by first | exact holds_of_mem (by repeat (first | with_reducible exact mm0 | refine mmS ?_)) | (exact holds_of_own 3 rfl)) Asks.nil)))) (fdivq_con (FIn.some (hX.mono (by decide))) (FIn.some (hY.mono (by decide)))) rfl ca18 ⟨rfl, rfl, rfl⟩ ?_
            rintro _ _ ⟨ad74, cp74, be74, ce74, rfl, rfl⟩
            refine JL_move rfl ?_
            refine JL_extract rfl rfl ?_
            refine JL_extract rfl rfl ?_
            refine JL_alloc z26 (fun b11 => ?_)
            refine JL_store (vs := [_, _, _]) 7 ty26 rfl rfl rfl (AllOne.cons rfl (AllOne.cons rfl (AllOne.cons rfl AllOne.nil))) rfl (Nat.le_of_ble_eq_true rfl) ?_
            refine JL_assign rfl ?_
            refine JL_done_up 101 [box _ _ [_, _, _, _, _, _], box _ _ [_, _, _, _, _, _], box _ _ [_, _], osl _ _ _ _ _ _, box _ _ [_, _, _, _, _, _], box _ _ [_, _, _], box _ _ [_, _, _], box _ _ [_, _, _]] [_, _, _, _, _, _, _, _, _, _, _, _, _, _, _, _, _, _, _, _] rfl rfl (by simp only [upd_pend, upd_base, flatP, updV_zero, updV_succ]; rfl) rfl rfl ?_
            refine JC_seq ?_
            refine JC_drawT mixed 21 [spV 77 [] _, spV 78 [0] _, spV 79 [1] _, spV 80 [2] _, spV 81 [2, 3] _, spV 82 [2, 4] _, spV 83 [5] _, spV 84 [6] _, spV 85 [6] _, spC 86 [6, 7, 8] _, spV 87 [6, 9] _, spV 88 [10] _, spV 89 [11] _, spV 90 [11, 12] _, spC 91 [11, 13] _, spV 92 [11, 14] _, spV 93 [11, 15] _, spV 94 [16] _, spV 95 [17] _, spV 96 [17, 18] _, spC 97 [17] _] ⟨OblS_V (fun vals ex ψ => (by
                refine JL_normQ ⟨101, [(77, _), (78, _), (79, _), (80, _), (81, _), (82, _), (83, _), (84, _), (85, _), (86, _), (87, _), (88, _), (89, _), (90, _), (91, _), (92, _), (93, _), (94, _), (95, _), (96, _), (97, _)], _⟩ (_ :: _ :: _ :: _ :: _ :: _ :: _ :: _ :: _ :: _ :: _ :: _ :: _ :: _ :: _ :: _ :: _ :: _ :: _ :: _ :: ψ) rfl rfl ?_
                refine JL_move rfl ?_
                exact JL_nil (JE_stepV rfl ss0))), OblS_V (fun vals ex ψ => (by
                refine JL_normQ ⟨101, [(77, _), (78, _), (79, _), (80, _), (81, _), (82, _), (83, _), (84, _), (85, _), (86, _), (87, _), (88, _), (89, _), (90, _), (91, _), (92, _), (93, _), (94, _), (95, _), (96, _), (97, _)], _⟩ (_ :: _ :: _ :: _ :: _ :: _ :: _ :: _ :: _ :: _ :: _ :: _ :: _ :: _ :: _ :: _ :: _ :: _ :: _ :: _ :: ψ) rfl rfl ?_
                refine JL_eql rfl rfl ?_
                rw [decide_eq_true (found_ok h24 h29 h50 h56)]
                exact JL_nil (JE_stepV rfl ss0))), OblS_V (fun vals ex ψ => (by
                refine JL_normQ ⟨101, [(77, _), (78, _), (79, _), (80, _), (81, _), (82, _), (83, _), (84, _), (85, _), (86, _), (87, _), (88, _), (89, _), (90, _), (91, _), (92, _), (93, _), (94, _), (95, _), (96, _), (97, _)], _⟩ (_ :: _ :: _ :: _ :: _ :: _ :: _ :: _ :: _ :: _ :: _ :: _ :: _ :: _ :: _ :: _ :: _ :: _ :: _ :: _ :: ψ) rfl rfl ?_
                refine JL_move rfl ?_
                exact JL_nil (JE_stepV rfl ss0))), OblS_V (fun vals ex ψ => (by
                refine JL_normQ ⟨101, [(77, _), (78, _), (79, _), (80, _), (81, _), (82, _), (83, _), (84, _), (85, _), (86, _), (87, _), (88, _), (89, _), (90, _), (91, _), (92, _), (93, _), (94, _), (95, _), (96, _), (97, _)], _⟩ (_ :: _ :: _ :: _ :: _ :: _ :: _ :: _ :: _ :: _ :: _ :: _ :: _ :: _ :: _ :: _ :: _ :: _ :: _ :: _ :: ψ) rfl rfl ?_
                refine JL_guard_yes rfl rfl ?_
                refine JL_move rfl ?_
                exact JL_nil (JE_stepV rfl ss0))), OblS_V (fun vals ex ψ => (by
                refine JL_normQ ⟨101, [(77, _), (78, _), (79, _), (80, _), (81, _), (82, _), (83, _), (84, _), (85, _), (86, _), (87, _), (88, _), (89, _), (90, _), (91, _), (92, _), (93, _), (94, _), (95, _), (96, _), (97, _)], _⟩ (_ :: _ :: _ :: _ :: _ :: _ :: _ :: _ :: _ :: _ :: _ :: _ :: _ :: _ :: _ :: _ :: _ :: _ :: _ :: _ :: ψ) rfl rfl ?_
                refine JL_guard_yes rfl rfl ?_
                refine JL_eql rfl rfl ?_
                rw [decide_eq_true (found_dve h29 h50 kb)]
                exact JL_nil (JE_stepV rfl ss0))), OblS_V (fun vals ex ψ => (by
                refine JL_normQ ⟨101, [(77, _), (78, _), (79, _), (80, _), (81, _), (82, _), (83, _), (84, _), (85, _), (86, _), (87, _), (88, _), (89, _), (90, _), (91, _), (92, _), (93, _), (94, _), (95, _), (96, _), (97, _)], _⟩ (_ :: _ :: _ :: _ :: _ :: _ :: _ :: _ :: _ :: _ :: _ :: _ :: _ :: _ :: _ :: _ :: _ :: _ :: _ :: _ :: ψ) rfl rfl ?_
                refine JL_pick_t rfl rfl ?_
                exact JL_nil (JE_stepV rfl ss0))), OblS_V (fun vals ex ψ => (by
                refine JL_normQ ⟨101, [(77, _), (78, _), (79, _), (80, _), (81, _), (82, _), (83, _), (84, _), (85, _), (86, _), (87, _), (88, _), (89, _), (90, _), (91, _), (92, _), (93, _), (94, _), (95, _), (96, _), (97, _)], _⟩ (_ :: _ :: _ :: _ :: _ :: _ :: _ :: _ :: _ :: _ :: _ :: _ :: _ :: _ :: _ :: _ :: _ :: _ :: _ :: _ :: ψ) rfl rfl ?_
                refine JL_move rfl ?_
                exact JL_nil (JE_stepV rfl ss0))), OblS_V (fun vals ex ψ => (by
                refine JL_normQ ⟨101, [(77, _), (78, _), (79, _), (80, _), (81, _), (82, _), (83, _), (84, _), (85, _), (86, _), (87, _), (88, _), (89, _), (90, _), (91, _), (92, _), (93, _), (94, _), (95, _), (96, _), (97, _)], _⟩ (_ :: _ :: _ :: _ :: _ :: _ :: _ :: _ :: _ :: _ :: _ :: _ :: _ :: _ :: _ :: _ :: _ :: _ :: _ :: _ :: ψ) rfl rfl ?_
                refine JL_guard_yes rfl rfl ?_
                refine JL_loadA (vs := [_, _, _, _, _, _]) 4 ty28 rfl rfl ⟨rfl, rfl, rfl, rfl, rfl, rfl, trivial⟩ ?_
                exact JL_nil (JE_stepV rfl ss0))), OblS_V (fun vals ex ψ => (by
                refine JL_normQ ⟨101, [(77, _), (78, _), (79, _), (80, _), (81, _), (82, _), (83, _), (84, _), (85, _), (86, _), (87, _), (88, _), (89, _), (90, _), (91, _), (92, _), (93, _), (94, _), (95, _), (96, _), (97, _)], _⟩ (_ :: _ :: _ :: _ :: _ :: _ :: _ :: _ :: _ :: _ :: _ :: _ :: _ :: _ :: _ :: _ :: _ :: _ :: _ :: _ :: ψ) rfl rfl ?_
                refine JL_guard_yes rfl rfl ?_
                refine JL_loadA (vs := [_, _, _]) 7 ty26 rfl rfl ⟨rfl, rfl, rfl, trivial⟩ ?_
                exact JL_nil (JE_stepV rfl ss0))), OblS_C (fun vals ex ψ => (by
                refine JL_normQ ⟨101, [(77, _), (78, _), (79, _), (80, _), (81, _), (82, _), (83, _), (84, _), (85, _), (86, _), (87, _), (88, _), (89, _), (90, _), (91, _), (92, _), (93, _), (94, _), (95, _), (96, _), (97, _)], _⟩ (_ :: _ :: _ :: _ :: _ :: _ :: _ :: _ :: _ :: _ :: _ :: _ :: _ :: _ :: _ :: _ :: _ :: _ :: _ :: _ :: ψ) rfl rfl ?_
                refine JL_guard_yes rfl rfl ?_
                refine JL_callF' (Asks.cons (by first | exact holds_of_mem (by repeat (first | with_reducible exact mm0 | refine mmS ?_)) | (exact holds_of_own 3 rfl)) (Asks.cons (by first | exact holds_of_mem (by repeat (first | with_reducible exact mm0 | refine mmS ?_)) | (exact holds_of_own 3 rfl)) (Asks.cons (by first | exact holds_of_mem (by repeat (first | with_reducible exact mm0 | refine mmS ?_)) | (exact holds_of_own 3 rfl)) (Asks.cons (by first | exact holds_of_mem (by repeat (first | with_reducible exact mm0 | refine mmS ?_)) | (exact holds_of_own 3 rfl)) (Asks.cons (by first | exact holds_of_mem (by repeat (first | with_reducible exact mm0 | refine mmS ?_)) | (exact holds_of_own 3 rfl)) (Asks.cons (by first | exact holds_of_mem (by repeat (first | with_reducible exact mm0 | refine mmS ?_)) | (exact holds_of_own 3 rfl)) Asks.nil)))))) (con_true (found_has h24 h29 h50 h56) (lhas_con (FIn.of (o := onv (svV q1 q2 q3 q4) (fval (dvq q1 q4))) (hU1.mono (by decide))) (FIn.of (o := onv (svV q1 q2 q3 q4) (svH q2 q3)) (hU2.mono (by decide))) (FIn.of (o := dvq (ins q1 q2 ka) (ins q3 q4 kb)) (hQ.mono (by decide))))) rfl ca19 ⟨rfl, rfl, rfl⟩ ?_
                exact fun v φo hP => JL_nil (JE_stepC φo rfl hP (fun p hp => mapB_l hp) (fun p hp => mapB_r (ss0 p hp))))), OblS_V (fun vals ex ψ => (by
                refine JL_normQ ⟨101, [(77, _), (78, _), (79, _), (80, _), (81, _), (82, _), (83, _), (84, _), (85, _), (86, _), (87, _), (88, _), (89, _), (90, _), (91, _), (92, _), (93, _), (94, _), (95, _), (96, _), (97, _)], _⟩ (_ :: _ :: _ :: _ :: _ :: _ :: _ :: _ :: _ :: _ :: _ :: _ :: _ :: _ :: _ :: _ :: _ :: _ :: _ :: _ :: _ :: ψ) rfl rfl ?_
                generalize vals 9 = x86
                refine JL_usePost mm0 (fun φo hP => ?_)
                obtain ⟨rfl, rfl⟩ := hP
                refine JL_norm _ _ (_ :: _ :: _ :: _ :: _ :: _ :: _ :: _ :: _ :: _ :: _ :: _ :: _ :: _ :: _ :: _ :: _ :: _ :: _ :: _ :: _ :: ψ) rfl rfl rfl ?_
                refine JL_pick_t rfl rfl ?_
                exact JL_nil (JE_stepV rfl ss0))), OblS_V (fun vals ex ψ => (by
                refine JL_normQ ⟨101, [(77, _), (78, _), (79, _), (80, _), (81, _), (82, _), (83, _), (84, _), (85, _), (86, _), (87, _), (88, _), (89, _), (90, _), (91, _), (92, _), (93, _), (94, _), (95, _), (96, _), (97, _)], _⟩ (_ :: _ :: _ :: _ :: _ :: _ :: _ :: _ :: _ :: _ :: _ :: _ :: _ :: _ :: _ :: _ :: _ :: _ :: _ :: _ :: ψ) rfl rfl ?_
                refine JL_move rfl ?_
                exact JL_nil (JE_stepV rfl ss0))), OblS_V (fun vals ex ψ => (by
                refine JL_normQ ⟨101, [(77, _), (78, _), (79, _), (80, _), (81, _), (82, _), (83, _), (84, _), (85, _), (86, _), (87, _), (88, _), (89, _), (90, _), (91, _), (92, _), (93, _), (94, _), (95, _), (96, _), (97, _)], _⟩ (_ :: _ :: _ :: _ :: _ :: _ :: _ :: _ :: _ :: _ :: _ :: _ :: _ :: _ :: _ :: _ :: _ :: _ :: _ :: _ :: ψ) rfl rfl ?_
                refine JL_guard_yes rfl rfl ?_
                refine JL_fieldAddr fo28_0 rfl ?_
                exact JL_nil (JE_stepV rfl ss0))), OblS_V (fun vals ex ψ => (by
                refine JL_normQ ⟨101, [(77, _), (78, _), (79, _), (80, _), (81, _), (82, _), (83, _), (84, _), (85, _), (86, _), (87, _), (88, _), (89, _), (90, _), (91, _), (92, _), (93, _), (94, _), (95, _), (96, _), (97, _)], _⟩ (_ :: _ :: _ :: _ :: _ :: _ :: _ :: _ :: _ :: _ :: _ :: _ :: _ :: _ :: _ :: _ :: _ :: _ :: _ :: _ :: ψ) rfl rfl ?_
                refine JL_guard_yes rfl rfl ?_
                refine JL_loadA (vs := [_, _, _]) 4 ty26 rfl rfl ⟨rfl, rfl, rfl, trivial⟩ ?_
                exact JL_nil (JE_stepV rfl ss0))), OblS_C (fun vals ex ψ => (by
                refine JL_normQ ⟨101, [(77, _), (78, _), (79, _), (80, _), (81, _), (82, _), (83, _), (84, _), (85, _), (86, _), (87, _), (88, _), (89, _), (90, _), (91, _), (92, _), (93, _), (94, _), (95, _), (96, _), (97, _)], _⟩ (_ :: _ :: _ :: _ :: _ :: _ :: _ :: _ :: _ :: _ :: _ :: _ :: _ :: _ :: _ :: _ :: _ :: _ :: _ :: _ :: ψ) rfl rfl ?_
                refine JL_guard_yes rfl rfl ?_
                refine JL_callF' (Asks.cons (by first | exact holds_of_mem (by repeat (first | with_reducible exact mm0 | refine mmS ?_)) | (exact holds_of_own 3 rfl)) (Asks.cons (by first | exact holds_of_mem (by repeat (first | with_reducible exact mm0 | refine mmS ?_)) | (exact holds_of_own 3 rfl)) Asks.nil)) (fsign_con (FIn.of (o := onv (svV q1 q2 q3 q4) (fval (dvq q1 q4))) (hU1.mono (by decide)))) rfl ca16 ⟨rfl, rfl⟩ ?_
                exact fun v φo hP => JL_nil (JE_stepC φo rfl hP (fun p hp => mapB_l hp) (fun p hp => mapB_r (ss0 p hp))))), OblS_V (fun vals ex ψ => (by
                refine JL_normQ ⟨101, [(77, _), (78, _), (79, _), (80, _), (81, _), (82, _), (83, _), (84, _), (85, _), (86, _), (87, _), (88, _), (89, _), (90, _), (91, _), (92, _), (93, _), (94, _), (95, _), (96, _), (97, _)], _⟩ (_ :: _ :: _ :: _ :: _ :: _ :: _ :: _ :: _ :: _ :: _ :: _ :: _ :: _ :: _ :: _ :: _ :: _ :: _ :: _ :: _ :: ψ) rfl rfl ?_
                generalize vals 14 = x91
                refine JL_usePost mm0 (fun φo hP => ?_)
                obtain ⟨rfl, rfl⟩ := hP
                refine JL_norm _ _ (_ :: _ :: _ :: _ :: _ :: _ :: _ :: _ :: _ :: _ :: _ :: _ :: _ :: _ :: _ :: _ :: _ :: _ :: _ :: _ :: _ :: ψ) rfl rfl rfl ?_
                refine JL_guard_yes rfl rfl ?_
                refine JL_geq rfl rfl ?_
                rw [decide_eq_true (found_sgn h24 h29 h50 h56)]
                exact JL_nil (JE_stepV rfl ss0))), OblS_V (fun vals ex ψ => (by
                refine JL_normQ ⟨101, [(77, _), (78, _), (79, _), (80, _), (81, _), (82, _), (83, _), (84, _), (85, _), (86, _), (87, _), (88, _), (89, _), (90, _), (91, _), (92, _), (93, _), (94, _), (95, _), (96, _), (97, _)], _⟩ (_ :: _ :: _ :: _ :: _ :: _ :: _ :: _ :: _ :: _ :: _ :: _ :: _ :: _ :: _ :: _ :: _ :: _ :: _ :: _ :: ψ) rfl rfl ?_
                refine JL_pick_t rfl rfl ?_
                exact JL_nil (JE_stepV rfl ss0))), OblS_V (fun vals ex ψ => (by
                refine JL_normQ ⟨101, [(77, _), (78, _), (79, _), (80, _), (81, _), (82, _), (83, _), (84, _), (85, _), (86, _), (87, _), (88, _), (89, _), (90, _), (91, _), (92, _), (93, _), (94, _), (95, _), (96, _), (97, _)], _⟩ (_ :: _ :: _ :: _ :: _ :: _ :: _ :: _ :: _ :: _ :: _ :: _ :: _ :: _ :: _ :: _ :: _ :: _ :: _ :: _ :: ψ) rfl rfl ?_
                refine JL_move rfl ?_
                exact JL_nil (JE_stepV rfl ss0))), OblS_V (fun vals ex ψ => (by
                refine JL_normQ ⟨101, [(77, _), (78, _), (79, _), (80, _), (81, _), (82, _), (83, _), (84, _), (85, _), (86, _), (87, _), (88, _), (89, _), (90, _), (91, _), (92, _), (93, _), (94, _), (95, _), (96, _), (97, _)], _⟩ (_ :: _ :: _ :: _ :: _ :: _ :: _ :: _ :: _ :: _ :: _ :: _ :: _ :: _ :: _ :: _ :: _ :: _ :: _ :: _ :: ψ) rfl rfl ?_
                refine JL_guard_yes rfl rfl ?_
                refine JL_fieldAddr fo28_1 rfl ?_
                exact JL_nil (JE_stepV rfl ss0))), OblS_V (fun vals ex ψ => (by
                refine JL_normQ ⟨101, [(77, _), (78, _), (79, _), (80, _), (81, _), (82, _), (83, _), (84, _), (85, _), (86, _), (87, _), (88, _), (89, _), (90, _), (91, _), (92, _), (93, _), (94, _), (95, _), (96, _), (97, _)], _⟩ (_ :: _ :: _ :: _ :: _ :: _ :: _ :: _ :: _ :: _ :: _ :: _ :: _ :: _ :: _ :: _ :: _ :: _ :: _ :: _ :: ψ) rfl rfl ?_
                refine JL_guard_yes rfl rfl ?_
                refine JL_loadA (vs := [_, _, _]) 4 ty26 rfl rfl ⟨rfl, rfl, rfl, trivial⟩ ?_
                exact JL_nil (JE_stepV rfl ss0))), OblS_C (fun vals ex ψ => (by
                refine JL_normQ ⟨101, [(77, _), (78, _), (79, _), (80, _), (81, _), (82, _), (83, _), (84, _), (85, _), (86, _), (87, _), (88, _), (89, _), (90, _), (91, _), (92, _), (93, _), (94, _), (95, _), (96, _), (97, _)], _⟩ (_ :: _ :: _ :: _ :: _ :: _ :: _ :: _ :: _ :: _ :: _ :: _ :: _ :: _ :: _ :: _ :: _ :: _ :: _ :: _ :: ψ) rfl rfl ?_
                refine JL_guard_yes rfl rfl ?_
                refine JL_callF' Asks.nil (fofi_con 1 1 (by omega) (by omega)) rfl ca20 ⟨rfl, rfl, rfl⟩ ?_
                exact fun v φo hP => JL_nil (JE_stepC φo rfl hP (fun p hp => mapB_l hp) (fun p hp => mapB_r (ss0 p hp))))), trivial⟩ (by kernel_rfl) (fun vals bs => ?_)
            refine JL_normL [_, _, _, _] ⟨101, [(77, _), (78, _), (79, _), (80, _), (81, _), (82, _), (83, _), (84, _), (85, _), (86, _), (87, _), (88, _), (89, _), (90, _), (91, _), (92, _), (93, _), (94, _), (95, _), (96, _), (97, _)], _⟩ [box _ _ [_, _, _, _, _, _], box _ _ [_, _, _, _, _, _], box _ _ [_, _], osl _ _ _ _ _ _, box _ _ [_, _, _, _, _, _], box _ _ [_, _, _], box _ _ [_, _, _], box _ _ [_, _, _]] [_, _, _, _, _, _, _, _, _, _, _, _, _, _, _, _, _, _, _, _, _, _, _] rfl rfl rfl rfl ?_
            generalize vals (0 + 1 + 1 + 1 + 1 + 1 + 1 + 1 + 1 + 1) = x86
            generalize vals (0 + 1 + 1 + 1 + 1 + 1 + 1 + 1 + 1 + 1 + 1 + 1 + 1 + 1 + 1) = x91
            generalize vals (0 + 1 + 1 + 1 + 1 + 1 + 1 + 1 + 1 + 1 + 1 + 1 + 1 + 1 + 1 + 1 + 1 + 1 + 1 + 1 + 1) = x97
            refine JL_usePost (mmS (mmS mm0)) (fun φo hP => ?_)
            obtain ⟨ad97, cp97, be97, ce97, rfl, rfl⟩ := hP
            refine JL_norm _ [box _ _ [_, _, _, _, _, _], box _ _ [_, _, _, _, _, _], box _ _ [_, _], osl _ _ _ _ _ _, box _ _ [_, _, _, _, _, _], box _ _ [_, _, _], box _ _ [_, _, _], box _ _ [_, _, _]] [_, _, _, _, _, _, _, _, _, _, _, _, _, _, _, _, _, _, _, _, _, _, _, _, _] rfl rfl rfl ?_
            refine JL_guard_yes rfl rfl ?_
            refine JL_callF' (Asks.cons (by first | exact holds_of_mem (by repeat (first | with_reducible exact mm0 | refine mmS ?_)) | (exact holds_of_own 3 rfl)) (Asks.cons (by first | exact holds_of_mem (by repeat (first | with_reducible exact mm0 | refine mmS ?_)) | (exact holds_of_own 3 rfl)) (Asks.cons (by first | exact holds_of_mem (by repeat (first | with_reducible exact mm0 | refine mmS ?_)) | (exact holds_of_own 3 rfl)) (Asks.cons (by first | exact holds_of_mem (by repeat (first | with_reducible exact mm0 | refine mmS ?_)) | (exact holds_of_own 3 rfl)) Asks.nil)))) (fcmpq_con (FIn.of (o := onv (svV q1 q2 q3 q4) (svH q2 q3)) (hU2.mono (by decide))) (FIn.some (q := ofq 1 1) (hO.mono (by decide)))) rfl ca17 ⟨rfl, rfl, rfl⟩ ?_
            rintro _ _ ⟨rfl, rfl⟩
            refine JL_guard_yes rfl rfl ?_
            refine JL_leq rfl rfl ?_
            rw [decide_eq_true (found_cmp h24 h29 h50 h56)]
            refine JL_pick_t rfl rfl ?_
            refine JL_assign rfl ?_
            refine JL_done_up 101 [box _ _ [_, _, _, _, _, _], box _ _ [_, _, _, _, _, _], box _ _ [_, _], osl _ _ _ _ _ _, box _ _ [_, _, _, _, _, _], box _ _ [_, _, _], box _ _ [_, _, _], box _ _ [_, _, _]] [_, _, _, _, _, _, _, _, _, _, _, _, _, _, _, _, _, _, _, _, _, _, _, _, _] rfl rfl (by simp only [upd_pend, upd_base, flatP, updV_zero, updV_succ]; rfl) rfl rfl ?_
            refine JC_ret ?_
            refine JE_ret (vs := [_]) [] Tryd.results4 ⟨rfl, rfl⟩ ?_ ?_
            · exact ⟨rfl, rfl⟩
            · exact all_nil
      · refine JL_guard_yes rfl rfl ?_
        refine JL_not rfl ?_
        rw [Bool.not_false]
        refine JL_pick_f rfl rfl ?_
        refine JL_done_up 101 [box _ _ [_, _, _, _, _, _], box _ _ [_, _, _, _, _, _], box _ _ [_, _], osl _ _ _ _ _ _] [_, _, _, _, _, _, _, _] rfl rfl (by simp only [upd_pend, upd_base, flatP, updV_zero, updV_succ]; rfl) rfl rfl ?_
        refine JC_true rfl ?_
        refine JC_seq ?_
        refine JC_region ?_
        refine JL_callF' Asks.nil (lawake_con) rfl ca8 rfl ?_
        rintro _ _ ⟨rfl, rfl⟩
        refine JL_assign rfl ?_
        refine JL_done_up 101 [box _ _ [_, _, _, _, _, _], box _ _ [_, _, _, _, _, _], box _ _ [_, _], osl _ _ _ _ _ _] [_, _, _, _, _, _, _, _] rfl rfl (by simp only [upd_pend, upd_base, flatP, updV_zero, updV_succ]; rfl) rfl rfl ?_
        refine JC_ret ?_
        refine JE_then_ret ?_
        refine JE_ret (vs := [_]) [] Tryd.results4 ⟨rfl, rfl⟩ ?_ ?_
        · exact ⟨rfl, rfl⟩
        · exact all_nil
    · refine JL_guard_yes rfl rfl ?_
      refine JL_not rfl ?_
      rw [Bool.not_false]
      refine JL_pick_f rfl rfl ?_
      refine JL_move rfl ?_
      refine JL_guard_no rfl rfl ?_
      refine JL_guard_no rfl rfl ?_
      refine JL_guard_no rfl rfl ?_
      refine JL_pick_t rfl rfl ?_
      refine JL_done_up 101 [box _ _ [_, _, _, _, _, _], box _ _ [_, _, _, _, _, _], box _ _ [_, _], osl _ _ _ _ _ _] [_, _, _, _, _, _, _, _] rfl rfl (by simp only [upd_pend, upd_base, flatP, updV_zero, updV_succ]; rfl) rfl rfl ?_
      refine JC_true rfl ?_
      refine JC_seq ?_
      refine JC_region ?_
      refine JL_callF' Asks.nil (lawake_con) rfl ca8 rfl ?_
      rintro _ _ ⟨rfl, rfl⟩
      refine JL_assign rfl ?_
      refine JL_done_up 101 [box _ _ [_, _, _, _, _, _], box _ _ [_, _, _, _, _, _], box _ _ [_, _], osl _ _ _ _ _ _] [_, _, _, _, _, _, _, _] rfl rfl (by simp only [upd_pend, upd_base, flatP, updV_zero, updV_succ]; rfl) rfl rfl ?_
      refine JC_ret ?_
      refine JE_then_ret ?_
      refine JE_ret (vs := [_]) [] Tryd.results4 ⟨rfl, rfl⟩ ?_ ?_
      · exact ⟨rfl, rfl⟩
      · exact all_nil
  · refine JL_guard_yes rfl rfl ?_
    refine JL_not rfl ?_
    rw [Bool.not_false]
    refine JL_pick_f rfl rfl ?_
    refine JL_move rfl ?_
    refine JL_guard_no rfl rfl ?_
    refine JL_guard_no rfl rfl ?_
    refine JL_guard_no rfl rfl ?_
    refine JL_pick_t rfl rfl ?_
    refine JL_move rfl ?_
    refine JL_guard_no rfl rfl ?_
    refine JL_guard_no rfl rfl ?_
    refine JL_guard_no rfl rfl ?_
    refine JL_pick_t rfl rfl ?_
    refine JL_done_up 101 [box _ _ [_, _, _, _, _, _], box _ _ [_, _, _, _, _, _], box _ _ [_, _], osl _ _ _ _ _ _] [_, _, _, _, _, _, _, _] rfl rfl (by simp only [upd_pend, upd_base, flatP, updV_zero, updV_succ]; rfl) rfl rfl ?_
    refine JC_true rfl ?_
    refine JC_seq ?_
    refine JC_region ?_
    refine JL_callF' Asks.nil (lawake_con) rfl ca8 rfl ?_
    rintro _ _ ⟨rfl, rfl⟩
    refine JL_assign rfl ?_
    refine JL_done_up 101 [box _ _ [_, _, _, _, _, _], box _ _ [_, _, _, _, _, _], box _ _ [_, _], osl _ _ _ _ _ _] [_, _, _, _, _, _, _, _] rfl rfl (by simp only [upd_pend, upd_base, flatP, updV_zero, updV_succ]; rfl) rfl rfl ?_
    refine JC_ret ?_
    refine JE_then_ret ?_
    refine JE_ret (vs := [_]) [] Tryd.results4 ⟨rfl, rfl⟩ ?_ ?_
    · exact ⟨rfl, rfl⟩
    · exact all_nil

end Go.Fw.K
