/- Walks through functions of the given program: each meets its contract. (Printed by a program of this repo.) -/
import Derived.Test.YtmbgbodkhdfdoaaDoorJ1
import Derived.Test.YtmbgbodkhdfdoaaDoorJ2
import Derived.Test.YtmbgbodkhdfdoaaDoorFwO
import Derived.Test.YtmbgbodkhdfdoaaDoorProg
namespace Go.Fw.J3
open Go Go.RowKit Go.Proofs Go.Nat9 Go.Fw
attribute [local irreducible] JC JL JE
theorem ca16 : callable Tryd.prog 16 = true := by kernel_rfl
theorem ca25 : callable Tryd.prog 25 = true := by kernel_rfl
theorem ca46 : callable Tryd.prog 46 = true := by kernel_rfl
theorem ca50 : callable Tryd.prog 50 = true := by kernel_rfl
theorem ca51 : callable Tryd.prog 51 = true := by kernel_rfl
theorem fo28_0 : fOf Tryd.prog 28 0 = some 0 := by kernel_rfl
theorem fo28_1 : fOf Tryd.prog 28 1 = some 3 := by kernel_rfl
theorem mixed : Tryd.prog.follows .mixedOrders = true := by kernel_rfl
theorem st28 : stOf Tryd.prog 28 = some ([(0, 3), (3, 3)], [.bool false, .slice none 0 0, .slice none 0 0, .bool false, .slice none 0 0, .slice none 0 0]) := by kernel_rfl
theorem ty26 : tyOf Tryd.prog 26 = some (true, 3) := by kernel_rfl
theorem ty28 : tyOf Tryd.prog 28 = some (true, 6) := by kernel_rfl
theorem z26 : zeroOf Tryd.prog 26 = some [.bool false, .slice none 0 0, .slice none 0 0] := by kernel_rfl
theorem z28 : zeroOf Tryd.prog 28 = some [.bool false, .slice none 0 0, .slice none 0 0, .bool false, .slice none 0 0, .slice none 0 0] := by kernel_rfl
end Go.Fw.J3
namespace Go.Fw.K
open Go Go.RowKit Go.Proofs Go.Nat9 Go.Fw Go.Fw.J3
attribute [local irreducible] JC JL JE

theorem rsurvival_con {s1 : Bool} {ad1 : Option Addr} {n1 c1 : Nat} {L1 : List Nat} {be1 : Option Addr} {m1 e1 : Nat} {M1 : List Nat} {q1 : Rat} (g1 : FIn s1 n1 L1 m1 M1 q1 10000) {s2 : Bool} {ad2 : Option Addr} {n2 c2 : Nat} {L2 : List Nat} {be2 : Option Addr} {m2 e2 : Nat} {M2 : List Nat} {q2 : Rat} (g2 : FIn s2 n2 L2 m2 M2 q2 10000) {s3 : Bool} {ad3 : Option Addr} {n3 c3 : Nat} {L3 : List Nat} {be3 : Option Addr} {m3 e3 : Nat} {M3 : List Nat} {q3 : Rat} (g3 : FIn s3 n3 L3 m3 M3 q3 10000) {s4 : Bool} {ad4 : Option Addr} {n4 c4 : Nat} {L4 : List Nat} {be4 : Option Addr} {m4 e4 : Nat} {M4 : List Nat} {q4 : Rat} (g4 : FIn s4 n4 L4 m4 M4 q4 10000) :
    ConF Tryd.prog 19 [.agg #[.bool s1, .slice ad1 n1 c1, .slice be1 m1 e1, .bool s2, .slice ad2 n2 c2, .slice be2 m2 e2], .agg #[.bool s3, .slice ad3 n3 c3, .slice be3 m3 e3, .bool s4, .slice ad4 n4 c4, .slice be4 m4 e4]] [vCells ad1 (u32s L1), vCells be1 (u32s M1), vCells ad2 (u32s L2), vCells be2 (u32s M2), vCells ad3 (u32s L3), vCells be3 (u32s M3), vCells ad4 (u32s L4), vCells be4 (u32s M4)]
      (SOE (onv (svV q1 q2 q3 q4) (fval (dvq q1 q4))) (onv (svV q1 q2 q3 q4) (svH q2 q3)) (.int .i64 (svE q1 q2 q3 q4))) := by
  have hb1 := g1.qs
  have hb2 := g2.qs
  have hb3 := g3.qs
  have hb4 := g4.qs
  have hqA := qs_dvq (c := 20002) hb1 hb4 (by decide)
  have hqB := qs_dvq (c := 20002) hb2 hb3 (by decide)
  have hqO := qs_one
  refine ConF_of Tryd.func19 rfl 56 _ rfl rfl ?_
  intro w0
  refine JC_norm ⟨56, [], [_, _, _, _, _, _, _, _, _, _, _, _, _, _, _, _, _, _, _, _, _, _, _, _, _, _, _, _, _, _, _, _, _, _, _, _, _, _, _, _, _, _, _, _, _, _, _, _, _, _, _, _, _, _, _, _]⟩ [] [_, _, _, _, _, _, _, _] rfl rfl rfl ?_
  refine JC_seq ?_
  refine JC_region ?_
  refine JL_box rfl rfl (fun b2 => ?_)
  refine JL_box rfl rfl (fun b3 => ?_)
  refine JL_alloc z28 (fun b4 => ?_)
  refine JL_assign rfl ?_
  refine JL_done_up 56 [box _ _ [_, _, _, _, _, _], box _ _ [_, _, _, _, _, _], box _ _ [_, _, _, _, _, _]] [_, _, _, _, _, _, _, _] rfl rfl (by simp only [upd_pend, upd_base, flatP, updV_zero, updV_succ]; rfl) rfl rfl ?_
  refine JC_seq ?_
  refine JC_seq ?_
  refine JC_region ?_
  refine JL_loadA (vs := [_, _, _, _, _, _]) 0 ty28 rfl rfl ⟨rfl, rfl, rfl, rfl, rfl, rfl, trivial⟩ ?_
  refine JL_callF' (Asks.cons (holds_of_mem (by repeat (first | with_reducible exact mm0 | refine mmS ?_))) (Asks.cons (holds_of_mem (by repeat (first | with_reducible exact mm0 | refine mmS ?_))) (Asks.cons (holds_of_mem (by repeat (first | with_reducible exact mm0 | refine mmS ?_))) (Asks.cons (holds_of_mem (by repeat (first | with_reducible exact mm0 | refine mmS ?_))) Asks.nil)))) (rvalid_con (g1.mono (by omega)) (g2.mono (by omega))) rfl ca16 ⟨rfl, rfl⟩ ?_
  rintro _ _ ⟨rfl, rfl⟩
  refine JL_splitV (fun h13 => ?_) (fun h13 => ?_)
  · refine JL_not rfl ?_
    rw [Bool.not_true]
    refine JL_move rfl ?_
    refine JL_guard_yes rfl rfl ?_
    refine JL_loadA (vs := [_, _, _, _, _, _]) 1 ty28 rfl rfl ⟨rfl, rfl, rfl, rfl, rfl, rfl, trivial⟩ ?_
    refine JL_guard_yes rfl rfl ?_
    refine JL_callF' (Asks.cons (holds_of_mem (by repeat (first | with_reducible exact mm0 | refine mmS ?_))) (Asks.cons (holds_of_mem (by repeat (first | with_reducible exact mm0 | refine mmS ?_))) (Asks.cons (holds_of_mem (by repeat (first | with_reducible exact mm0 | refine mmS ?_))) (Asks.cons (holds_of_mem (by repeat (first | with_reducible exact mm0 | refine mmS ?_))) Asks.nil)))) (rvalid_con (g3.mono (by omega)) (g4.mono (by omega))) rfl ca16 ⟨rfl, rfl⟩ ?_
    rintro _ _ ⟨rfl, rfl⟩
    refine JL_splitV (fun h17 => ?_) (fun h17 => ?_)
    · refine JL_guard_yes rfl rfl ?_
      refine JL_not rfl ?_
      rw [Bool.not_true]
      refine JL_pick_f rfl rfl ?_
      refine JL_done_up 56 [box _ _ [_, _, _, _, _, _], box _ _ [_, _, _, _, _, _], box _ _ [_, _, _, _, _, _]] [_, _, _, _, _, _, _, _] rfl rfl (by simp only [upd_pend, upd_base, flatP, updV_zero, updV_succ]; rfl) rfl rfl ?_
      refine JC_false rfl ?_
      refine JC_skip ?_
      refine JE_then ?_
      refine JC_seq ?_
      refine JC_seq ?_
      refine JC_region ?_
      refine JL_fieldAddr fo28_0 rfl ?_
      refine JL_loadA (vs := [_, _, _]) 1 ty26 rfl rfl ⟨rfl, rfl, rfl, trivial⟩ ?_
      refine JL_callF' (Asks.cons (holds_of_mem (by repeat (first | with_reducible exact mm0 | refine mmS ?_))) (Asks.cons (holds_of_mem (by repeat (first | with_reducible exact mm0 | refine mmS ?_))) Asks.nil)) (rsign_con (g3.mono (by omega))) rfl ca46 ⟨rfl, rfl⟩ ?_
      rintro _ _ ⟨rfl, rfl⟩
      refine JL_eql rfl rfl ?_
      refine JL_split (fun h24 => ?_) (fun h24 => ?_)
      · have hz : q3 = 0 := cmpQ_zero.1 h24
        refine JL_done_up 56 [box _ _ [_, _, _, _, _, _], box _ _ [_, _, _, _, _, _], box _ _ [_, _, _, _, _, _]] [_, _, _, _, _, _, _, _] rfl rfl (by simp only [upd_pend, upd_base, flatP, updV_zero, updV_succ]; rfl) rfl rfl ?_
        refine JC_true rfl ?_
        refine JC_seq ?_
        refine JC_region ?_
        refine JL_build (cs := [_, _, _, _, _, _]) [] st28 rfl rfl ?_
        refine JL_store (vs := [_, _, _, _, _, _]) 2 ty28 rfl rfl rfl (AllOne.cons rfl (AllOne.cons rfl (AllOne.cons rfl (AllOne.cons rfl (AllOne.cons rfl (AllOne.cons rfl AllOne.nil)))))) rfl (Nat.le_of_ble_eq_true rfl) ?_
        refine JL_assign rfl ?_
        refine JL_done_up 56 [box _ _ [_, _, _, _, _, _], box _ _ [_, _, _, _, _, _], box _ _ [_, _, _, _, _, _]] [_, _, _, _, _, _, _, _] rfl rfl (by simp only [upd_pend, upd_base, flatP, updV_zero, updV_succ]; rfl) rfl rfl ?_
        refine JC_ret ?_
        refine JE_then_ret ?_
        have hv : v2 q1 q2 q3 q4 = true := by unfold v2; rw [h13, h17]; rfl
        have hs : svV q1 q2 q3 q4 = false := by unfold svV; rw [hv, decide_eq_true hz]; rfl
        have he : svE q1 q2 q3 q4 = 12 := by unfold svE; rw [hv, if_pos hz]; rfl
        refine JE_nilView ?_
        refine JE_ret (vs := [_, _]) [vCells none (u32s []), vCells none (u32s []), vCells none (u32s []), vCells none (u32s [])] Tryd.results19 ⟨RV.cell (vs := [_, _, _, _, _, _]) 2 ty28 rfl rfl ⟨rfl, rfl, rfl, rfl, rfl, rfl, trivial⟩, rfl, rfl⟩ ?_ ?_
        · exact ⟨none, 0, none, 0, none, 0, none, 0, by rw [hs, he]; rfl, by rw [hs]; rfl⟩
        · exact (all_cons (by repeat (first | with_reducible exact mm0 | refine mmS ?_)) (all_cons (by repeat (first | with_reducible exact mm0 | refine mmS ?_)) (all_cons (by repeat (first | with_reducible exact mm0 | refine mmS ?_)) (all_cons (by repeat (first | with_reducible exact mm0 | refine mmS ?_)) all_nil))))
      · have hz : ¬ q3 = 0 := fun h => h24 (cmpQ_zero.2 h)
        have hv : v2 q1 q2 q3 q4 = true := by unfold v2; rw [h13, h17]; rfl
        obtain ⟨hM1, hM2, hM3⟩ := sv_meet hv hz
        have hO := qs_ofq 0 1 (by decide) (by decide)
        have hO1 := qs_ofq 1 1 (by decide) (by decide)
        refine JL_done_up 56 [box _ _ [_, _, _, _, _, _], box _ _ [_, _, _, _, _, _], box _ _ [_, _, _, _, _, _]] [_, _, _, _, _, _, _, _] rfl rfl (by simp only [upd_pend, upd_base, flatP, updV_zero, updV_succ]; rfl) rfl rfl ?_
        refine JC_false rfl ?_
        refine JC_skip ?_
        refine JE_then ?_
        refine JC_seq ?_
        refine JC_region ?_
        refine JL_fieldAddr fo28_0 rfl ?_
        refine JL_loadA (vs := [_, _, _]) 0 ty26 rfl rfl ⟨rfl, rfl, rfl, trivial⟩ ?_
        refine JL_fieldAddr fo28_1 rfl ?_
        refine JL_loadA (vs := [_, _, _]) 1 ty26 rfl rfl ⟨rfl, rfl, rfl, trivial⟩ ?_
        refine JL_callF' (Asks.cons (holds_of_mem (by repeat (first | with_reducible exact mm0 | refine mmS ?_))) (Asks.cons (holds_of_mem (by repeat (first | with_reducible exact mm0 | refine mmS ?_))) (Asks.cons (holds_of_mem (by repeat (first | with_reducible exact mm0 | refine mmS ?_))) (Asks.cons (holds_of_mem (by repeat (first | with_reducible exact mm0 | refine mmS ?_))) Asks.nil)))) (rdivq_con (g1.mono (by omega)) (g4.mono (by omega))) rfl ca50 ⟨rfl, rfl, rfl⟩ ?_
        rintro _ _ ⟨ad31, cp31, be31, ce31, rfl, rfl⟩
        refine JL_move rfl ?_
        refine JL_extract rfl rfl ?_
        refine JL_extract rfl rfl ?_
        refine JL_alloc z26 (fun b6 => ?_)
        refine JL_store (vs := [_, _, _]) 3 ty26 rfl rfl rfl (AllOne.cons rfl (AllOne.cons rfl (AllOne.cons rfl AllOne.nil))) rfl (Nat.le_of_ble_eq_true rfl) ?_
        refine JL_assign rfl ?_
        refine JL_done_up 56 [box _ _ [_, _, _, _, _, _], box _ _ [_, _, _, _, _, _], box _ _ [_, _, _, _, _, _], box _ _ [_, _, _]] [_, _, _, _, _, _, _, _, _, _] rfl rfl (by simp only [upd_pend, upd_base, flatP, updV_zero, updV_succ]; rfl) rfl rfl ?_
        refine JC_seq ?_
        refine JC_region ?_
        refine JL_fieldAddr fo28_1 rfl ?_
        refine JL_loadA (vs := [_, _, _]) 0 ty26 rfl rfl ⟨rfl, rfl, rfl, trivial⟩ ?_
        refine JL_fieldAddr fo28_0 rfl ?_
        refine JL_loadA (vs := [_, _, _]) 1 ty26 rfl rfl ⟨rfl, rfl, rfl, trivial⟩ ?_
        refine JL_callF' (Asks.cons (holds_of_mem (by repeat (first | with_reducible exact mm0 | refine mmS ?_))) (Asks.cons (holds_of_mem (by repeat (first | with_reducible exact mm0 | refine mmS ?_))) (Asks.cons (holds_of_mem (by repeat (first | with_reducible exact mm0 | refine mmS ?_))) (Asks.cons (holds_of_mem (by repeat (first | with_reducible exact mm0 | refine mmS ?_))) Asks.nil)))) (rdivq_con (g2.mono (by omega)) (g3.mono (by omega))) rfl ca50 ⟨rfl, rfl, rfl⟩ ?_
        rintro _ _ ⟨ad39, cp39, be39, ce39, rfl, rfl⟩
        refine JL_move rfl ?_
        refine JL_extract rfl rfl ?_
        refine JL_extract rfl rfl ?_
        refine JL_alloc z26 (fun b8 => ?_)
        refine JL_store (vs := [_, _, _]) 4 ty26 rfl rfl rfl (AllOne.cons rfl (AllOne.cons rfl (AllOne.cons rfl AllOne.nil))) rfl (Nat.le_of_ble_eq_true rfl) ?_
        refine JL_assign rfl ?_
        refine JL_done_up 56 [box _ _ [_, _, _, _, _, _], box _ _ [_, _, _, _, _, _], box _ _ [_, _, _, _, _, _], box _ _ [_, _, _], box _ _ [_, _, _]] [_, _, _, _, _, _, _, _, _, _, _, _] rfl rfl (by simp only [upd_pend, upd_base, flatP, updV_zero, updV_succ]; rfl) rfl rfl ?_
        refine JC_seq ?_
        refine JC_drawLate mixed 11 9 [spV 43 [] _, spV 44 [] _, spV 45 [0, 1] _, spC 46 [] _, spC 47 [] _, spC 48 [3, 4] (SO (some (ofq 0 1)) (some (ofq 1 1))), spC 49 [2, 5] _, spC 42 [6] _, spC 50 [7] (SO (onv (mtV (fval (dvq q1 q4)) (fval (dvq q2 q3)) (ofq 0 1) (ofq 1 1)) (mlo (fval (dvq q1 q4)) (ofq 0 1))) (onv (mtV (fval (dvq q1 q4)) (fval (dvq q2 q3)) (ofq 0 1) (ofq 1 1)) (mhi (fval (dvq q2 q3)) (ofq 1 1)))), spC 51 [7] (fun v φo => v = .bool (mtV (fval (dvq q1 q4)) (fval (dvq q2 q3)) (ofq 0 1) (ofq 1 1)) ∧ φo = []), spA 10 28 [.bool false, .slice none 0 0, .slice none 0 0, .bool false, .slice none 0 0, .slice none 0 0]] ⟨OblS_V (fun vals ex ψ => (by
            refine JL_normQ ⟨56, [(43, _), (44, _), (45, _), (46, _), (47, _), (48, _), (49, _), (42, _), (50, _), (51, _), (10, _)], _⟩ (_ :: _ :: _ :: _ :: _ :: _ :: _ :: _ :: _ :: _ :: _ :: _ :: ψ) rfl rfl ?_
            refine JL_loadA (vs := [_, _, _]) 3 ty26 rfl rfl ⟨rfl, rfl, rfl, trivial⟩ ?_
            exact JL_nil (JE_stepV rfl ss0))), OblS_V (fun vals ex ψ => (by
            refine JL_normQ ⟨56, [(43, _), (44, _), (45, _), (46, _), (47, _), (48, _), (49, _), (42, _), (50, _), (51, _), (10, _)], _⟩ (_ :: _ :: _ :: _ :: _ :: _ :: _ :: _ :: _ :: _ :: _ :: _ :: ψ) rfl rfl ?_
            refine JL_loadA (vs := [_, _, _]) 4 ty26 rfl rfl ⟨rfl, rfl, rfl, trivial⟩ ?_
            exact JL_nil (JE_stepV rfl ss0))), OblS_V (fun vals ex ψ => (by
            refine JL_normQ ⟨56, [(43, _), (44, _), (45, _), (46, _), (47, _), (48, _), (49, _), (42, _), (50, _), (51, _), (10, _)], _⟩ (_ :: _ :: _ :: _ :: _ :: _ :: _ :: _ :: _ :: _ :: _ :: _ :: ψ) rfl rfl ?_
            refine JL_build (cs := [_, _, _, _, _, _]) [(0, [_, _, _]), (1, [_, _, _])] st28 ⟨⟨rfl, _, rfl, rfl⟩, ⟨rfl, _, rfl, rfl⟩, rfl⟩ rfl ?_
            exact JL_nil (JE_stepV rfl ss0))), OblS_C (fun vals ex ψ => (by
            refine JL_normQ ⟨56, [(43, _), (44, _), (45, _), (46, _), (47, _), (48, _), (49, _), (42, _), (50, _), (51, _), (10, _)], _⟩ (_ :: _ :: _ :: _ :: _ :: _ :: _ :: _ :: _ :: _ :: _ :: _ :: ψ) rfl rfl ?_
            refine JL_callF' Asks.nil (rofi_con 0 1 (by omega) (by omega)) rfl ca51 ⟨rfl, rfl, rfl⟩ ?_
            exact fun v φo hP => JL_nil (JE_stepC φo rfl hP (fun p hp => mapB_l hp) (fun p hp => mapB_r (ss0 p hp))))), OblS_C (fun vals ex ψ => (by
            refine JL_normQ ⟨56, [(43, _), (44, _), (45, _), (46, _), (47, _), (48, _), (49, _), (42, _), (50, _), (51, _), (10, _)], _⟩ (_ :: _ :: _ :: _ :: _ :: _ :: _ :: _ :: _ :: _ :: _ :: _ :: ψ) rfl rfl ?_
            refine JL_callF' Asks.nil (rofi_con 1 1 (by omega) (by omega)) rfl ca51 ⟨rfl, rfl, rfl⟩ ?_
            exact fun v φo hP => JL_nil (JE_stepC φo rfl hP (fun p hp => mapB_l hp) (fun p hp => mapB_r (ss0 p hp))))), OblS_C (fun vals ex ψ => (by
            refine JL_normQ ⟨56, [(43, _), (44, _), (45, _), (46, _), (47, _), (48, _), (49, _), (42, _), (50, _), (51, _), (10, _)], _⟩ (_ :: _ :: _ :: _ :: _ :: _ :: _ :: _ :: _ :: _ :: _ :: _ :: _ :: _ :: ψ) rfl rfl ?_
            generalize vals 3 = x46
            refine JL_usePost mm0 (fun φo hP => ?_)
            obtain ⟨ad46, cp46, be46, ce46, rfl, rfl⟩ := hP
            refine JL_norm _ _ (_ :: _ :: _ :: _ :: _ :: _ :: _ :: _ :: _ :: _ :: _ :: _ :: _ :: _ :: _ :: _ :: ψ) rfl rfl rfl ?_
            generalize vals 4 = x47
            refine JL_usePost (mmS (mmS (mmS mm0))) (fun φo hP => ?_)
            obtain ⟨ad47, cp47, be47, ce47, rfl, rfl⟩ := hP
            refine JL_norm _ _ (_ :: _ :: _ :: _ :: _ :: _ :: _ :: _ :: _ :: _ :: _ :: _ :: _ :: _ :: _ :: _ :: _ :: _ :: ψ) rfl rfl rfl ?_
            refine JL_build (cs := [_, _, _, _, _, _]) [(0, [_, _, _]), (1, [_, _, _])] st28 ⟨⟨rfl, _, rfl, rfl⟩, ⟨rfl, _, rfl, rfl⟩, rfl⟩ rfl ?_
            exact JL_nil (JE_stepC [vCells ad46 (u32s (fnum (some (ofq 0 1)))), vCells be46 (u32s (fden (some (ofq 0 1)))), vCells ad47 (u32s (fnum (some (ofq 1 1)))), vCells be47 (u32s (fden (some (ofq 1 1))))] rfl ⟨_, _, _, _, _, _, _, _, rfl, rfl⟩ (all_cons (by repeat (first | with_reducible exact mm0 | refine mmS ?_)) (all_cons (by repeat (first | with_reducible exact mm0 | refine mmS ?_)) (all_cons (by repeat (first | with_reducible exact mm0 | refine mmS ?_)) (all_cons (by repeat (first | with_reducible exact mm0 | refine mmS ?_)) all_nil)))) (ssS (ssS (ssS (ssS ss0))))))), OblS_C (fun vals ex ψ => (by
            refine JL_normQ ⟨56, [(43, _), (44, _), (45, _), (46, _), (47, _), (48, _), (49, _), (42, _), (50, _), (51, _), (10, _)], _⟩ (_ :: _ :: _ :: _ :: _ :: _ :: _ :: _ :: _ :: _ :: _ :: _ :: _ :: ψ) rfl rfl ?_
            generalize vals 5 = x48
            refine JL_usePost mm0 (fun φo hP => ?_)
            obtain ⟨ad48, cp48, be48, ce48, af48, cq48, bg48, cf48, rfl, rfl⟩ := hP
            refine JL_norm _ _ (_ :: _ :: _ :: _ :: _ :: _ :: _ :: _ :: _ :: _ :: _ :: _ :: _ :: _ :: _ :: _ :: _ :: ψ) rfl rfl rfl ?_
            refine JL_callF' (Asks.cons (holds_of_mem (by repeat (first | with_reducible exact mm0 | refine mmS ?_))) (Asks.cons (holds_of_mem (by repeat (first | with_reducible exact mm0 | refine mmS ?_))) (Asks.cons (holds_of_mem (by repeat (first | with_reducible exact mm0 | refine mmS ?_))) (Asks.cons (holds_of_mem (by repeat (first | with_reducible exact mm0 | refine mmS ?_))) (Asks.cons (holds_of_mem (by repeat (first | with_reducible exact mm0 | refine mmS ?_))) (Asks.cons (holds_of_mem (by repeat (first | with_reducible exact mm0 | refine mmS ?_))) (Asks.cons (holds_of_mem (by repeat (first | with_reducible exact mm0 | refine mmS ?_))) (Asks.cons (holds_of_mem (by repeat (first | with_reducible exact mm0 | refine mmS ?_))) Asks.nil)))))))) (rmeet_con (FIn.of (o := dvq q1 q4) (hqA.mono (by decide))) (FIn.of (o := dvq q2 q3) (hqB.mono (by decide))) (FIn.some (hO.mono (by decide))) (FIn.some (hO1.mono (by decide)))) rfl ca25 ⟨rfl, rfl, rfl⟩ ?_
            exact fun v φo hP => JL_nil (JE_stepC φo rfl hP (fun p hp => mapB_l hp) (fun p hp => mapB_r ((ssS (ssS (ssS (ssS ss0)))) p hp))))), OblS_C (fun vals ex ψ => (by
            refine JL_normQ ⟨56, [(43, _), (44, _), (45, _), (46, _), (47, _), (48, _), (49, _), (42, _), (50, _), (51, _), (10, _)], _⟩ (_ :: _ :: _ :: _ :: _ :: _ :: _ :: _ :: _ :: _ :: _ :: _ :: _ :: ψ) rfl rfl ?_
            generalize vals 6 = x49
            refine JL_usePost mm0 (fun φo hP => ?_)
            refine JL_move rfl ?_
            exact JL_nil (JE_stepC φo rfl hP (fun p hp => List.mem_append_left _ (List.mem_map.2 ⟨p, hp, rfl⟩)) (fun p hp => List.mem_append_right _ hp)))), OblS_C (fun vals ex ψ => (by
            refine JL_normQ ⟨56, [(43, _), (44, _), (45, _), (46, _), (47, _), (48, _), (49, _), (42, _), (50, _), (51, _), (10, _)], _⟩ (_ :: _ :: _ :: _ :: _ :: _ :: _ :: _ :: _ :: _ :: _ :: _ :: _ :: ψ) rfl rfl ?_
            generalize vals 7 = x42
            refine JL_usePost mm0 (fun φo hP => ?_)
            obtain ⟨ad42, cp42, be42, ce42, af42, cq42, bg42, cf42, rfl, rfl⟩ := hP
            refine JL_norm _ _ (_ :: _ :: _ :: _ :: _ :: _ :: _ :: _ :: _ :: _ :: _ :: _ :: _ :: _ :: _ :: _ :: _ :: ψ) rfl rfl rfl ?_
            refine JL_extract rfl rfl ?_
            exact JL_nil (JE_stepC [vCells ad42 (u32s (fnum (onv (mtV (fval (dvq q1 q4)) (fval (dvq q2 q3)) (ofq 0 1) (ofq 1 1)) (mlo (fval (dvq q1 q4)) (ofq 0 1))))), vCells be42 (u32s (fden (onv (mtV (fval (dvq q1 q4)) (fval (dvq q2 q3)) (ofq 0 1) (ofq 1 1)) (mlo (fval (dvq q1 q4)) (ofq 0 1))))), vCells af42 (u32s (fnum (onv (mtV (fval (dvq q1 q4)) (fval (dvq q2 q3)) (ofq 0 1) (ofq 1 1)) (mhi (fval (dvq q2 q3)) (ofq 1 1))))), vCells bg42 (u32s (fden (onv (mtV (fval (dvq q1 q4)) (fval (dvq q2 q3)) (ofq 0 1) (ofq 1 1)) (mhi (fval (dvq q2 q3)) (ofq 1 1)))))] rfl ⟨ad42, cp42, be42, ce42, af42, cq42, bg42, cf42, rfl, rfl⟩ (all_cons (by repeat (first | with_reducible exact mm0 | refine mmS ?_)) (all_cons (by repeat (first | with_reducible exact mm0 | refine mmS ?_)) (all_cons (by repeat (first | with_reducible exact mm0 | refine mmS ?_)) (all_cons (by repeat (first | with_reducible exact mm0 | refine mmS ?_)) all_nil)))) (ssS (ssS (ssS (ssS ss0))))))), OblS_C (fun vals ex ψ => (by
            refine JL_normQ ⟨56, [(43, _), (44, _), (45, _), (46, _), (47, _), (48, _), (49, _), (42, _), (50, _), (51, _), (10, _)], _⟩ (_ :: _ :: _ :: _ :: _ :: _ :: _ :: _ :: _ :: _ :: _ :: _ :: _ :: ψ) rfl rfl ?_
            generalize vals 7 = x42
            refine JL_usePost mm0 (fun φo hP => ?_)
            obtain ⟨ad42, cp42, be42, ce42, af42, cq42, bg42, cf42, rfl, rfl⟩ := hP
            refine JL_norm _ _ (_ :: _ :: _ :: _ :: _ :: _ :: _ :: _ :: _ :: _ :: _ :: _ :: _ :: _ :: _ :: _ :: _ :: ψ) rfl rfl rfl ?_
            refine JL_extract rfl rfl ?_
            exact JL_nil (JE_stepC [] rfl ⟨rfl, rfl⟩ all_nil (ssS (ssS (ssS (ssS ss0))))))), OblS_al rfl z28, trivial⟩ (by kernel_rfl) rfl rfl rfl (fun vals bs => ?_) (fun vals bs => ?_)
        · refine JL_normL [_, _] ⟨56, [(43, _), (44, _), (45, _), (46, _), (47, _), (48, _), (49, _), (42, _), (50, _), (51, _), (10, _)], _⟩ [box _ _ [_, _, _, _, _, _], box _ _ [_, _, _, _, _, _], box _ _ [_, _, _, _, _, _], box _ _ [_, _, _], box _ _ [_, _, _], box _ _ [_, _, _, _, _, _]] [_, _, _, _, _, _, _, _, _, _, _, _, _, _, _, _, _, _, _] rfl rfl rfl rfl ?_
          generalize vals (0 + 1 + 1 + 1) = x46
          generalize vals (0 + 1 + 1 + 1 + 1) = x47
          generalize vals (0 + 1 + 1 + 1 + 1 + 1) = x48
          generalize vals (0 + 1 + 1 + 1 + 1 + 1 + 1) = x49
          generalize vals (0 + 1 + 1 + 1 + 1 + 1 + 1 + 1) = x42
          generalize vals (0 + 1 + 1 + 1 + 1 + 1 + 1 + 1 + 1) = x50
          generalize vals (0 + 1 + 1 + 1 + 1 + 1 + 1 + 1 + 1 + 1) = x51
          generalize bs (0 + 1 + 1 + 1 + 1 + 1 + 1 + 1 + 1 + 1 + 1) = b10
          refine JL_usePost (mmS (mmS (mmS (mmS (mmS mm0))))) (fun φo hP => ?_)
          obtain ⟨ad50, cp50, be50, ce50, af50, cq50, bg50, cf50, rfl, rfl⟩ := hP
          refine JL_norm _ [box _ _ [_, _, _, _, _, _], box _ _ [_, _, _, _, _, _], box _ _ [_, _, _, _, _, _], box _ _ [_, _, _], box _ _ [_, _, _], box _ _ [_, _, _, _, _, _]] [_, _, _, _, _, _, _, _, _, _, _, _, _, _, _, _, _, _, _, _, _, _, _] rfl rfl rfl ?_
          refine JL_usePost (mmS (mmS (mmS (mmS (mmS (mmS (mmS (mmS (mmS (mmS mm0)))))))))) (fun φo hP => ?_)
          obtain ⟨rfl, rfl⟩ := hP
          refine JL_norm _ [box _ _ [_, _, _, _, _, _], box _ _ [_, _, _, _, _, _], box _ _ [_, _, _, _, _, _], box _ _ [_, _, _], box _ _ [_, _, _], box _ _ [_, _, _, _, _, _]] [_, _, _, _, _, _, _, _, _, _, _, _, _, _, _, _, _, _, _, _, _, _, _] rfl rfl rfl ?_
          refine JL_store (vs := [_, _, _, _, _, _]) 5 ty28 rfl rfl rfl (AllOne.cons rfl (AllOne.cons rfl (AllOne.cons rfl (AllOne.cons rfl (AllOne.cons rfl (AllOne.cons rfl AllOne.nil)))))) rfl (Nat.le_of_ble_eq_true rfl) ?_
          refine JL_assign rfl ?_
          refine JL_done_up 56 [box _ _ [_, _, _, _, _, _], box _ _ [_, _, _, _, _, _], box _ _ [_, _, _, _, _, _], box _ _ [_, _, _], box _ _ [_, _, _], box _ _ [_, _, _, _, _, _]] [_, _, _, _, _, _, _, _, _, _, _, _, _, _, _, _, _, _, _, _, _, _, _] rfl rfl (by simp only [upd_pend, upd_base, flatP, updV_zero, updV_succ]; rfl) rfl rfl ?_
          refine JC_seq ?_
          refine JC_seq ?_
          refine JC_region ?_
          refine JL_move rfl ?_
          refine JL_not rfl ?_
          refine JL_done_up 56 [box _ _ [_, _, _, _, _, _], box _ _ [_, _, _, _, _, _], box _ _ [_, _, _, _, _, _], box _ _ [_, _, _], box _ _ [_, _, _], box _ _ [_, _, _, _, _, _]] [_, _, _, _, _, _, _, _, _, _, _, _, _, _, _, _, _, _, _, _, _, _, _] rfl rfl (by simp only [upd_pend, upd_base, flatP, updV_zero, updV_succ]; rfl) rfl rfl ?_
          refine JC_cond rfl (fun hb => ?_) (fun hb => ?_)
          · have h53 := hb
            refine JC_seq ?_
            refine JC_region ?_
            refine JL_build (cs := [_, _, _, _, _, _]) [] st28 rfl rfl ?_
            refine JL_store (vs := [_, _, _, _, _, _]) 2 ty28 rfl rfl rfl (AllOne.cons rfl (AllOne.cons rfl (AllOne.cons rfl (AllOne.cons rfl (AllOne.cons rfl (AllOne.cons rfl AllOne.nil)))))) rfl (Nat.le_of_ble_eq_true rfl) ?_
            refine JL_assign rfl ?_
            refine JL_done_up 56 [box _ _ [_, _, _, _, _, _], box _ _ [_, _, _, _, _, _], box _ _ [_, _, _, _, _, _], box _ _ [_, _, _], box _ _ [_, _, _], box _ _ [_, _, _, _, _, _]] [_, _, _, _, _, _, _, _, _, _, _, _, _, _, _, _, _, _, _, _, _, _, _] rfl rfl (by simp only [upd_pend, upd_base, flatP, updV_zero, updV_succ]; rfl) rfl rfl ?_
            refine JC_ret ?_
            refine JE_then_ret ?_
            have hc : oneQ < fval (dvq q1 q4) := by rw [hM1, Bool.not_not] at h53; exact of_decide_eq_true h53
            have hs : svV q1 q2 q3 q4 = false := by unfold svV; rw [hv, decide_eq_false hz, decide_eq_true hc]; rfl
            have he : svE q1 q2 q3 q4 = 10 := by unfold svE; rw [hv, if_neg hz, if_pos hc]; rfl
            refine JE_nilView ?_
            refine JE_ret (vs := [_, _]) [vCells none (u32s []), vCells none (u32s []), vCells none (u32s []), vCells none (u32s [])] Tryd.results19 ⟨RV.cell (vs := [_, _, _, _, _, _]) 2 ty28 rfl rfl ⟨rfl, rfl, rfl, rfl, rfl, rfl, trivial⟩, rfl, rfl⟩ ?_ ?_
            · exact ⟨none, 0, none, 0, none, 0, none, 0, by rw [hs, he]; rfl, by rw [hs]; rfl⟩
            · exact (all_cons (by repeat (first | with_reducible exact mm0 | refine mmS ?_)) (all_cons (by repeat (first | with_reducible exact mm0 | refine mmS ?_)) (all_cons (by repeat (first | with_reducible exact mm0 | refine mmS ?_)) (all_cons (by repeat (first | with_reducible exact mm0 | refine mmS ?_)) all_nil))))
          · have h53 := hb
            refine JC_skip ?_
            refine JE_then ?_
            refine JC_seq ?_
            refine JC_region ?_
            refine JL_loadA (vs := [_, _, _, _, _, _]) 5 ty28 rfl rfl ⟨rfl, rfl, rfl, rfl, rfl, rfl, trivial⟩ ?_
            refine JL_store (vs := [_, _, _, _, _, _]) 2 ty28 rfl rfl rfl (AllOne.cons rfl (AllOne.cons rfl (AllOne.cons rfl (AllOne.cons rfl (AllOne.cons rfl (AllOne.cons rfl AllOne.nil)))))) rfl (Nat.le_of_ble_eq_true rfl) ?_
            refine JL_assign rfl ?_
            refine JL_done_up 56 [box _ _ [_, _, _, _, _, _], box _ _ [_, _, _, _, _, _], box _ _ [_, _, _, _, _, _], box _ _ [_, _, _], box _ _ [_, _, _], box _ _ [_, _, _, _, _, _]] [_, _, _, _, _, _, _, _, _, _, _, _, _, _, _, _, _, _, _, _, _, _, _] rfl rfl (by simp only [upd_pend, upd_base, flatP, updV_zero, updV_succ]; rfl) rfl rfl ?_
            refine JC_ret ?_
            have hc : ¬ oneQ < fval (dvq q1 q4) := by rw [hM1, Bool.not_not] at h53; exact of_decide_eq_false h53
            have hmt : mtV (fval (dvq q1 q4)) (fval (dvq q2 q3)) (ofq 0 1) (ofq 1 1) = true := by rw [hM1, decide_eq_false hc]; rfl
            have hs : svV q1 q2 q3 q4 = true := by unfold svV; rw [hv, decide_eq_false hz, decide_eq_false hc]; rfl
            have he : svE q1 q2 q3 q4 = 0 := by unfold svE; rw [hv, if_neg hz, if_neg hc]; rfl
            refine JE_ret (vs := [_, _]) [vCells ad50 (u32s (fnum (onv (mtV (fval (dvq q1 q4)) (fval (dvq q2 q3)) (ofq 0 1) (ofq 1 1)) (mlo (fval (dvq q1 q4)) (ofq 0 1))))), vCells be50 (u32s (fden (onv (mtV (fval (dvq q1 q4)) (fval (dvq q2 q3)) (ofq 0 1) (ofq 1 1)) (mlo (fval (dvq q1 q4)) (ofq 0 1))))), vCells af50 (u32s (fnum (onv (mtV (fval (dvq q1 q4)) (fval (dvq q2 q3)) (ofq 0 1) (ofq 1 1)) (mhi (fval (dvq q2 q3)) (ofq 1 1))))), vCells bg50 (u32s (fden (onv (mtV (fval (dvq q1 q4)) (fval (dvq q2 q3)) (ofq 0 1) (ofq 1 1)) (mhi (fval (dvq q2 q3)) (ofq 1 1)))))] Tryd.results19 ⟨RV.cell (vs := [_, _, _, _, _, _]) 2 ty28 rfl rfl ⟨rfl, rfl, rfl, rfl, rfl, rfl, trivial⟩, rfl, rfl⟩ ?_ ?_
            · rw [show onv (svV q1 q2 q3 q4) (fval (dvq q1 q4)) = onv (mtV (fval (dvq q1 q4)) (fval (dvq q2 q3)) (ofq 0 1) (ofq 1 1)) (mlo (fval (dvq q1 q4)) (ofq 0 1)) from by rw [hs, hmt, hM2], show onv (svV q1 q2 q3 q4) (svH q2 q3) = onv (mtV (fval (dvq q1 q4)) (fval (dvq q2 q3)) (ofq 0 1) (ofq 1 1)) (mhi (fval (dvq q2 q3)) (ofq 1 1)) from by rw [hs, hmt, hM3], he]; exact ⟨ad50, cp50, be50, ce50, af50, cq50, bg50, cf50, rfl, rfl⟩
            · exact (all_cons (by repeat (first | with_reducible exact mm0 | refine mmS ?_)) (all_cons (by repeat (first | with_reducible exact mm0 | refine mmS ?_)) (all_cons (by repeat (first | with_reducible exact mm0 | refine mmS ?_)) (all_cons (by repeat (first | with_reducible exact mm0 | refine mmS ?_)) all_nil))))
        · refine JL_normL [_, _, _] ⟨56, [(43, _), (44, _), (45, _), (46, _), (47, _), (48, _), (49, _), (42, _), (50, _), (51, _), (10, _)], _⟩ [box _ _ [_, _, _, _, _, _], box _ _ [_, _, _, _, _, _], box _ _ [_, _, _, _, _, _], box _ _ [_, _, _], box _ _ [_, _, _], box _ _ [_, _, _, _, _, _]] [_, _, _, _, _, _, _, _, _, _, _, _, _, _, _, _, _, _, _] rfl rfl rfl rfl ?_
          generalize vals (0 + 1 + 1 + 1) = x46
          generalize vals (0 + 1 + 1 + 1 + 1) = x47
          generalize vals (0 + 1 + 1 + 1 + 1 + 1) = x48
          generalize vals (0 + 1 + 1 + 1 + 1 + 1 + 1) = x49
          generalize vals (0 + 1 + 1 + 1 + 1 + 1 + 1 + 1) = x42
          generalize vals (0 + 1 + 1 + 1 + 1 + 1 + 1 + 1 + 1) = x50
          generalize vals (0 + 1 + 1 + 1 + 1 + 1 + 1 + 1 + 1 + 1) = x51
          generalize bs (0 + 1 + 1 + 1 + 1 + 1 + 1 + 1 + 1 + 1 + 1) = b10
          refine JL_usePost (mmS (mmS (mmS (mmS mm0)))) (fun φo hP => ?_)
          obtain ⟨ad42, cp42, be42, ce42, af42, cq42, bg42, cf42, rfl, rfl⟩ := hP
          refine JL_norm _ [box _ _ [_, _, _, _, _, _], box _ _ [_, _, _, _, _, _], box _ _ [_, _, _, _, _, _], box _ _ [_, _, _], box _ _ [_, _, _], box _ _ [_, _, _, _, _, _]] [_, _, _, _, _, _, _, _, _, _, _, _, _, _, _, _, _, _, _, _, _, _, _] rfl rfl rfl ?_
          refine JL_usePost (mmS (mmS (mmS (mmS (mmS (mmS (mmS (mmS (mmS mm0))))))))) (fun φo hP => ?_)
          obtain ⟨ad50, cp50, be50, ce50, af50, cq50, bg50, cf50, rfl, rfl⟩ := hP
          refine JL_norm _ [box _ _ [_, _, _, _, _, _], box _ _ [_, _, _, _, _, _], box _ _ [_, _, _, _, _, _], box _ _ [_, _, _], box _ _ [_, _, _], box _ _ [_, _, _, _, _, _]] [_, _, _, _, _, _, _, _, _, _, _, _, _, _, _, _, _, _, _, _, _, _, _, _, _, _, _] rfl rfl rfl ?_
          refine JL_store (vs := [_, _, _, _, _, _]) 5 ty28 rfl rfl rfl (AllOne.cons rfl (AllOne.cons rfl (AllOne.cons rfl (AllOne.cons rfl (AllOne.cons rfl (AllOne.cons rfl AllOne.nil)))))) rfl (Nat.le_of_ble_eq_true rfl) ?_
          refine JL_extract rfl rfl ?_
          refine JL_assign rfl ?_
          refine JL_done_up 56 [box _ _ [_, _, _, _, _, _], box _ _ [_, _, _, _, _, _], box _ _ [_, _, _, _, _, _], box _ _ [_, _, _], box _ _ [_, _, _], box _ _ [_, _, _, _, _, _]] [_, _, _, _, _, _, _, _, _, _, _, _, _, _, _, _, _, _, _, _, _, _, _, _, _, _, _] rfl rfl (by simp only [upd_pend, upd_base, flatP, updV_zero, updV_succ]; rfl) rfl rfl ?_
          refine JC_seq ?_
          refine JC_seq ?_
          refine JC_region ?_
          refine JL_move rfl ?_
          refine JL_not rfl ?_
          refine JL_done_up 56 [box _ _ [_, _, _, _, _, _], box _ _ [_, _, _, _, _, _], box _ _ [_, _, _, _, _, _], box _ _ [_, _, _], box _ _ [_, _, _], box _ _ [_, _, _, _, _, _]] [_, _, _, _, _, _, _, _, _, _, _, _, _, _, _, _, _, _, _, _, _, _, _, _, _, _, _] rfl rfl (by simp only [upd_pend, upd_base, flatP, updV_zero, updV_succ]; rfl) rfl rfl ?_
          refine JC_cond rfl (fun hb => ?_) (fun hb => ?_)
          · have h53 := hb
            refine JC_seq ?_
            refine JC_region ?_
            refine JL_build (cs := [_, _, _, _, _, _]) [] st28 rfl rfl ?_
            refine JL_store (vs := [_, _, _, _, _, _]) 2 ty28 rfl rfl rfl (AllOne.cons rfl (AllOne.cons rfl (AllOne.cons rfl (AllOne.cons rfl (AllOne.cons rfl (AllOne.cons rfl AllOne.nil)))))) rfl (Nat.le_of_ble_eq_true rfl) ?_
            refine JL_assign rfl ?_
            refine JL_done_up 56 [box _ _ [_, _, _, _, _, _], box _ _ [_, _, _, _, _, _], box _ _ [_, _, _, _, _, _], box _ _ [_, _, _], box _ _ [_, _, _], box _ _ [_, _, _, _, _, _]] [_, _, _, _, _, _, _, _, _, _, _, _, _, _, _, _, _, _, _, _, _, _, _, _, _, _, _] rfl rfl (by simp only [upd_pend, upd_base, flatP, updV_zero, updV_succ]; rfl) rfl rfl ?_
            refine JC_ret ?_
            refine JE_then_ret ?_
            have hc : oneQ < fval (dvq q1 q4) := by rw [hM1, Bool.not_not] at h53; exact of_decide_eq_true h53
            have hs : svV q1 q2 q3 q4 = false := by unfold svV; rw [hv, decide_eq_false hz, decide_eq_true hc]; rfl
            have he : svE q1 q2 q3 q4 = 10 := by unfold svE; rw [hv, if_neg hz, if_pos hc]; rfl
            refine JE_nilView ?_
            refine JE_ret (vs := [_, _]) [vCells none (u32s []), vCells none (u32s []), vCells none (u32s []), vCells none (u32s [])] Tryd.results19 ⟨RV.cell (vs := [_, _, _, _, _, _]) 2 ty28 rfl rfl ⟨rfl, rfl, rfl, rfl, rfl, rfl, trivial⟩, rfl, rfl⟩ ?_ ?_
            · exact ⟨none, 0, none, 0, none, 0, none, 0, by rw [hs, he]; rfl, by rw [hs]; rfl⟩
            · exact (all_cons (by repeat (first | with_reducible exact mm0 | refine mmS ?_)) (all_cons (by repeat (first | with_reducible exact mm0 | refine mmS ?_)) (all_cons (by repeat (first | with_reducible exact mm0 | refine mmS ?_)) (all_cons (by repeat (first | with_reducible exact mm0 | refine mmS ?_)) all_nil))))
          · have h53 := hb
            refine JC_skip ?_
            refine JE_then ?_
            refine JC_seq ?_
            refine JC_region ?_
            refine JL_loadA (vs := [_, _, _, _, _, _]) 5 ty28 rfl rfl ⟨rfl, rfl, rfl, rfl, rfl, rfl, trivial⟩ ?_
            refine JL_store (vs := [_, _, _, _, _, _]) 2 ty28 rfl rfl rfl (AllOne.cons rfl (AllOne.cons rfl (AllOne.cons rfl (AllOne.cons rfl (AllOne.cons rfl (AllOne.cons rfl AllOne.nil)))))) rfl (Nat.le_of_ble_eq_true rfl) ?_
            refine JL_assign rfl ?_
            refine JL_done_up 56 [box _ _ [_, _, _, _, _, _], box _ _ [_, _, _, _, _, _], box _ _ [_, _, _, _, _, _], box _ _ [_, _, _], box _ _ [_, _, _], box _ _ [_, _, _, _, _, _]] [_, _, _, _, _, _, _, _, _, _, _, _, _, _, _, _, _, _, _, _, _, _, _, _, _, _, _] rfl rfl (by simp only [upd_pend, upd_base, flatP, updV_zero, updV_succ]; rfl) rfl rfl ?_
            refine JC_ret ?_
            have hc : ¬ oneQ < fval (dvq q1 q4) := by rw [hM1, Bool.not_not] at h53; exact of_decide_eq_false h53
            have hmt : mtV (fval (dvq q1 q4)) (fval (dvq q2 q3)) (ofq 0 1) (ofq 1 1) = true := by rw [hM1, decide_eq_false hc]; rfl
            have hs : svV q1 q2 q3 q4 = true := by unfold svV; rw [hv, decide_eq_false hz, decide_eq_false hc]; rfl
            have he : svE q1 q2 q3 q4 = 0 := by unfold svE; rw [hv, if_neg hz, if_neg hc]; rfl
            refine JE_ret (vs := [_, _]) [vCells ad50 (u32s (fnum (onv (mtV (fval (dvq q1 q4)) (fval (dvq q2 q3)) (ofq 0 1) (ofq 1 1)) (mlo (fval (dvq q1 q4)) (ofq 0 1))))), vCells be50 (u32s (fden (onv (mtV (fval (dvq q1 q4)) (fval (dvq q2 q3)) (ofq 0 1) (ofq 1 1)) (mlo (fval (dvq q1 q4)) (ofq 0 1))))), vCells af50 (u32s (fnum (onv (mtV (fval (dvq q1 q4)) (fval (dvq q2 q3)) (ofq 0 1) (ofq 1 1)) (mhi (fval (dvq q2 q3)) (ofq 1 1))))), vCells bg50 (u32s (fden (onv (mtV (fval (dvq q1 q4)) (fval (dvq q2 q3)) (ofq 0 1) (ofq 1 1)) (mhi (fval (dvq q2 q3)) (ofq 1 1)))))] Tryd.results19 ⟨RV.cell (vs := [_, _, _, _, _, _]) 2 ty28 rfl rfl ⟨rfl, rfl, rfl, rfl, rfl, rfl, trivial⟩, rfl, rfl⟩ ?_ ?_
            · rw [show onv (svV q1 q2 q3 q4) (fval (dvq q1 q4)) = onv (mtV (fval (dvq q1 q4)) (fval (dvq q2 q3)) (ofq 0 1) (ofq 1 1)) (mlo (fval (dvq q1 q4)) (ofq 0 1)) from by rw [hs, hmt, hM2], show onv (svV q1 q2 q3 q4) (svH q2 q3) = onv (mtV (fval (dvq q1 q4)) (fval (dvq q2 q3)) (ofq 0 1) (ofq 1 1)) (mhi (fval (dvq q2 q3)) (ofq 1 1)) from by rw [hs, hmt, hM3], he]; exact ⟨ad50, cp50, be50, ce50, af50, cq50, bg50, cf50, rfl, rfl⟩
            · exact (all_cons (by repeat (first | with_reducible exact mm0 | refine mmS ?_)) (all_cons (by repeat (first | with_reducible exact mm0 | refine mmS ?_)) (all_cons (by repeat (first | with_reducible exact mm0 | refine mmS ?_)) (all_cons (by repeat (first | with_reducible exact mm0 | refine mmS ?_)) all_nil))))
    · refine JL_guard_yes rfl rfl ?_
      refine JL_not rfl ?_
      rw [Bool.not_false]
      refine JL_pick_f rfl rfl ?_
      refine JL_done_up 56 [box _ _ [_, _, _, _, _, _], box _ _ [_, _, _, _, _, _], box _ _ [_, _, _, _, _, _]] [_, _, _, _, _, _, _, _] rfl rfl (by simp only [upd_pend, upd_base, flatP, updV_zero, updV_succ]; rfl) rfl rfl ?_
      refine JC_true rfl ?_
      refine JC_seq ?_
      refine JC_region ?_
      refine JL_build (cs := [_, _, _, _, _, _]) [] st28 rfl rfl ?_
      refine JL_store (vs := [_, _, _, _, _, _]) 2 ty28 rfl rfl rfl (AllOne.cons rfl (AllOne.cons rfl (AllOne.cons rfl (AllOne.cons rfl (AllOne.cons rfl (AllOne.cons rfl AllOne.nil)))))) rfl (Nat.le_of_ble_eq_true rfl) ?_
      refine JL_assign rfl ?_
      refine JL_done_up 56 [box _ _ [_, _, _, _, _, _], box _ _ [_, _, _, _, _, _], box _ _ [_, _, _, _, _, _]] [_, _, _, _, _, _, _, _] rfl rfl (by simp only [upd_pend, upd_base, flatP, updV_zero, updV_succ]; rfl) rfl rfl ?_
      refine JC_ret ?_
      refine JE_then_ret ?_
      have hv : v2 q1 q2 q3 q4 = false := by unfold v2; first | (rw [h13]; rfl) | (rw [h17, Bool.and_false])
      have hs : svV q1 q2 q3 q4 = false := by unfold svV; rw [hv]; rfl
      have he : svE q1 q2 q3 q4 = 1 := by unfold svE; rw [hv]; rfl
      refine JE_nilView ?_
      refine JE_ret (vs := [_, _]) [vCells none (u32s []), vCells none (u32s []), vCells none (u32s []), vCells none (u32s [])] Tryd.results19 ⟨RV.cell (vs := [_, _, _, _, _, _]) 2 ty28 rfl rfl ⟨rfl, rfl, rfl, rfl, rfl, rfl, trivial⟩, rfl, rfl⟩ ?_ ?_
      · exact ⟨none, 0, none, 0, none, 0, none, 0, by rw [hs, he]; rfl, by rw [hs]; rfl⟩
      · exact (all_cons (by repeat (first | with_reducible exact mm0 | refine mmS ?_)) (all_cons (by repeat (first | with_reducible exact mm0 | refine mmS ?_)) (all_cons (by repeat (first | with_reducible exact mm0 | refine mmS ?_)) (all_cons (by repeat (first | with_reducible exact mm0 | refine mmS ?_)) all_nil))))
  · refine JL_not rfl ?_
    rw [Bool.not_false]
    refine JL_move rfl ?_
    refine JL_guard_no rfl rfl ?_
    refine JL_guard_no rfl rfl ?_
    refine JL_guard_no rfl rfl ?_
    refine JL_pick_t rfl rfl ?_
    refine JL_done_up 56 [box _ _ [_, _, _, _, _, _], box _ _ [_, _, _, _, _, _], box _ _ [_, _, _, _, _, _]] [_, _, _, _, _, _, _, _] rfl rfl (by simp only [upd_pend, upd_base, flatP, updV_zero, updV_succ]; rfl) rfl rfl ?_
    refine JC_true rfl ?_
    refine JC_seq ?_
    refine JC_region ?_
    refine JL_build (cs := [_, _, _, _, _, _]) [] st28 rfl rfl ?_
    refine JL_store (vs := [_, _, _, _, _, _]) 2 ty28 rfl rfl rfl (AllOne.cons rfl (AllOne.cons rfl (AllOne.cons rfl (AllOne.cons rfl (AllOne.cons rfl (AllOne.cons rfl AllOne.nil)))))) rfl (Nat.le_of_ble_eq_true rfl) ?_
    refine JL_assign rfl ?_
    refine JL_done_up 56 [box _ _ [_, _, _, _, _, _], box _ _ [_, _, _, _, _, _], box _ _ [_, _, _, _, _, _]] [_, _, _, _, _, _, _, _] rfl rfl (by simp only [upd_pend, upd_base, flatP, updV_zero, updV_succ]; rfl) rfl rfl ?_
    refine JC_ret ?_
    refine JE_then_ret ?_
    have hv : v2 q1 q2 q3 q4 = false := by unfold v2; first | (rw [h13]; rfl) | (rw [h17, Bool.and_false])
    have hs : svV q1 q2 q3 q4 = false := by unfold svV; rw [hv]; rfl
    have he : svE q1 q2 q3 q4 = 1 := by unfold svE; rw [hv]; rfl
    refine JE_nilView ?_
    refine JE_ret (vs := [_, _]) [vCells none (u32s []), vCells none (u32s []), vCells none (u32s []), vCells none (u32s [])] Tryd.results19 ⟨RV.cell (vs := [_, _, _, _, _, _]) 2 ty28 rfl rfl ⟨rfl, rfl, rfl, rfl, rfl, rfl, trivial⟩, rfl, rfl⟩ ?_ ?_
    · exact ⟨none, 0, none, 0, none, 0, none, 0, by rw [hs, he]; rfl, by rw [hs]; rfl⟩
    · exact (all_cons (by repeat (first | with_reducible exact mm0 | refine mmS ?_)) (all_cons (by repeat (first | with_reducible exact mm0 | refine mmS ?_)) (all_cons (by repeat (first | with_reducible exact mm0 | refine mmS ?_)) (all_cons (by repeat (first | with_reducible exact mm0 | refine mmS ?_)) all_nil))))

end Go.Fw.K
