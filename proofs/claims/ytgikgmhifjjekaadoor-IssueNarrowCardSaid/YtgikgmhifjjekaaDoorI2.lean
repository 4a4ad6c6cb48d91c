/- Walks through functions of the given program: each meets its contract. (Printed by a program of this repo.) -/
import Derived.Test.YtgikgmhifjjekaaDoorI1
import Derived.Test.YtgikgmhifjjekaaDoorProg
namespace Go.Fw.I2
open Go Go.RowKit Go.Proofs Go.Nat9 Go.Fw
attribute [local irreducible] JC JL JE
theorem ca17 : callable Tryd.prog 17 = true := by kernel_rfl
theorem ca18 : callable Tryd.prog 18 = true := by kernel_rfl
theorem ca31 : callable Tryd.prog 31 = true := by kernel_rfl
theorem ca32 : callable Tryd.prog 32 = true := by kernel_rfl
theorem fo28_0 : fOf Tryd.prog 28 0 = some 0 := by kernel_rfl
theorem fo28_1 : fOf Tryd.prog 28 1 = some 3 := by kernel_rfl
theorem mixed : Tryd.prog.follows .mixedOrders = true := by kernel_rfl
theorem st28 : stOf Tryd.prog 28 = some ([(0, 3), (3, 3)], [.bool false, .slice none 0 0, .slice none 0 0, .bool false, .slice none 0 0, .slice none 0 0]) := by kernel_rfl
theorem ty26 : tyOf Tryd.prog 26 = some (true, 3) := by kernel_rfl
theorem ty28 : tyOf Tryd.prog 28 = some (true, 6) := by kernel_rfl
theorem z26 : zeroOf Tryd.prog 26 = some [.bool false, .slice none 0 0, .slice none 0 0] := by kernel_rfl
theorem z28 : zeroOf Tryd.prog 28 = some [.bool false, .slice none 0 0, .slice none 0 0, .bool false, .slice none 0 0, .slice none 0 0] := by kernel_rfl
end Go.Fw.I2
namespace Go.Fw.K
open Go Go.RowKit Go.Proofs Go.Nat9 Go.Fw Go.Fw.I2
attribute [local irreducible] JC JL JE

theorem isurvival_con {s1 : Bool} {ad1 : Option Addr} {n1 c1 : Nat} {L1 : List Nat} {be1 : Option Addr} {m1 e1 : Nat} {M1 : List Nat} {q1 : Rat} (g1 : FIn s1 n1 L1 m1 M1 q1 10000) {s2 : Bool} {ad2 : Option Addr} {n2 c2 : Nat} {L2 : List Nat} {be2 : Option Addr} {m2 e2 : Nat} {M2 : List Nat} {q2 : Rat} (g2 : FIn s2 n2 L2 m2 M2 q2 10000) {s3 : Bool} {ad3 : Option Addr} {n3 c3 : Nat} {L3 : List Nat} {be3 : Option Addr} {m3 e3 : Nat} {M3 : List Nat} {q3 : Rat} (g3 : FIn s3 n3 L3 m3 M3 q3 10000) {s4 : Bool} {ad4 : Option Addr} {n4 c4 : Nat} {L4 : List Nat} {be4 : Option Addr} {m4 e4 : Nat} {M4 : List Nat} {q4 : Rat} (g4 : FIn s4 n4 L4 m4 M4 q4 10000) :
    ConF Tryd.prog 14 [.agg #[.bool s1, .slice ad1 n1 c1, .slice be1 m1 e1, .bool s2, .slice ad2 n2 c2, .slice be2 m2 e2], .agg #[.bool s3, .slice ad3 n3 c3, .slice be3 m3 e3, .bool s4, .slice ad4 n4 c4, .slice be4 m4 e4]] [vCells ad1 (u32s L1), vCells be1 (u32s M1), vCells ad2 (u32s L2), vCells be2 (u32s M2), vCells ad3 (u32s L3), vCells be3 (u32s M3), vCells ad4 (u32s L4), vCells be4 (u32s M4)]
      (SOE (onv (svV q1 q2 q3 q4) (fval (dvq q1 q4))) (onv (svV q1 q2 q3 q4) (svH q2 q3)) (.int .i64 (svE q1 q2 q3 q4))) := by
  have hb1 := g1.qs
  have hb2 := g2.qs
  have hb3 := g3.qs
  have hb4 := g4.qs
  have hqA := qs_dvq (c := 20002) hb1 hb4 (by decide)
  have hqB := qs_dvq (c := 20002) hb2 hb3 (by decide)
  have hqO := qs_one
  refine ConF_of Tryd.func14 rfl 52 _ rfl rfl ?_
  intro w0
  refine JC_norm ⟨52, [], [_, _, _, _, _, _, _, _, _, _, _, _, _, _, _, _, _, _, _, _, _, _, _, _, _, _, _, _, _, _, _, _, _, _, _, _, _, _, _, _, _, _, _, _, _, _, _, _, _, _, _, _]⟩ [] [_, _, _, _, _, _, _, _] rfl rfl rfl ?_
  refine JC_seq ?_
  refine JC_region ?_
  refine JL_box rfl rfl (fun b2 => ?_)
  refine JL_box rfl rfl (fun b3 => ?_)
  refine JL_alloc z28 (fun b4 => ?_)
  refine JL_assign rfl ?_
  refine JL_done_up 52 [box _ _ [_, _, _, _, _, _], box _ _ [_, _, _, _, _, _], box _ _ [_, _, _, _, _, _]] [_, _, _, _, _, _, _, _] rfl rfl (by simp only [upd_pend, upd_base, flatP, updV_zero, updV_succ]; rfl) rfl rfl ?_
  refine JC_seq ?_
  refine JC_seq ?_
  refine JC_region ?_
  refine JL_loadA (vs := [_, _, _, _, _, _]) 0 ty28 rfl rfl ⟨rfl, rfl, rfl, rfl, rfl, rfl, trivial⟩ ?_
  refine JL_callF' (Asks.cons (holds_of_mem (by repeat (first | with_reducible exact mm0 | refine mmS ?_))) (Asks.cons (holds_of_mem (by repeat (first | with_reducible exact mm0 | refine mmS ?_))) (Asks.cons (holds_of_mem (by repeat (first | with_reducible exact mm0 | refine mmS ?_))) (Asks.cons (holds_of_mem (by repeat (first | with_reducible exact mm0 | refine mmS ?_))) Asks.nil)))) (ivalid_con (g1.mono (by omega)) (g2.mono (by omega))) rfl ca31 ⟨rfl, rfl⟩ ?_
  rintro _ _ ⟨rfl, rfl⟩
  refine JL_splitV (fun h11 => ?_) (fun h11 => ?_)
  · refine JL_not rfl ?_
    rw [Bool.not_true]
    refine JL_move rfl ?_
    refine JL_guard_yes rfl rfl ?_
    refine JL_loadA (vs := [_, _, _, _, _, _]) 1 ty28 rfl rfl ⟨rfl, rfl, rfl, rfl, rfl, rfl, trivial⟩ ?_
    refine JL_guard_yes rfl rfl ?_
    refine JL_callF' (Asks.cons (holds_of_mem (by repeat (first | with_reducible exact mm0 | refine mmS ?_))) (Asks.cons (holds_of_mem (by repeat (first | with_reducible exact mm0 | refine mmS ?_))) (Asks.cons (holds_of_mem (by repeat (first | with_reducible exact mm0 | refine mmS ?_))) (Asks.cons (holds_of_mem (by repeat (first | with_reducible exact mm0 | refine mmS ?_))) Asks.nil)))) (ivalid_con (g3.mono (by omega)) (g4.mono (by omega))) rfl ca31 ⟨rfl, rfl⟩ ?_
    rintro _ _ ⟨rfl, rfl⟩
    refine JL_splitV (fun h15 => ?_) (fun h15 => ?_)
    · refine JL_guard_yes rfl rfl ?_
      refine JL_not rfl ?_
      rw [Bool.not_true]
      refine JL_pick_f rfl rfl ?_
      refine JL_done_up 52 [box _ _ [_, _, _, _, _, _], box _ _ [_, _, _, _, _, _], box _ _ [_, _, _, _, _, _]] [_, _, _, _, _, _, _, _] rfl rfl (by simp only [upd_pend, upd_base, flatP, updV_zero, updV_succ]; rfl) rfl rfl ?_
      refine JC_false rfl ?_
      refine JC_skip ?_
      refine JE_then ?_
      refine JC_seq ?_
      refine JC_region ?_
      refine JL_fieldAddr fo28_1 rfl ?_
      refine JL_loadA (vs := [_, _, _]) 0 ty26 rfl rfl ⟨rfl, rfl, rfl, trivial⟩ ?_
      refine JL_fieldAddr fo28_0 rfl ?_
      refine JL_loadA (vs := [_, _, _]) 1 ty26 rfl rfl ⟨rfl, rfl, rfl, trivial⟩ ?_
      refine JL_callF' (Asks.cons (holds_of_mem (by repeat (first | with_reducible exact mm0 | refine mmS ?_))) (Asks.cons (holds_of_mem (by repeat (first | with_reducible exact mm0 | refine mmS ?_))) (Asks.cons (holds_of_mem (by repeat (first | with_reducible exact mm0 | refine mmS ?_))) (Asks.cons (holds_of_mem (by repeat (first | with_reducible exact mm0 | refine mmS ?_))) Asks.nil)))) (fdivq_con (g2.mono (by omega)) (g3.mono (by omega))) rfl ca18 ⟨rfl, rfl, rfl⟩ ?_
      rintro _ _ ⟨adh, cph, beh, ceh, rfl, rfl⟩
      refine JL_move rfl ?_
      refine JL_extract rfl rfl ?_
      refine JL_extract rfl rfl ?_
      refine JL_alloc z26 (fun b6 => ?_)
      refine JL_store (vs := [_, _, _]) 3 ty26 rfl rfl rfl (AllOne.cons rfl (AllOne.cons rfl (AllOne.cons rfl AllOne.nil))) rfl (Nat.le_of_ble_eq_true rfl) ?_
      refine JL_assign rfl ?_
      refine JL_done_up 52 [box _ _ [_, _, _, _, _, _], box _ _ [_, _, _, _, _, _], box _ _ [_, _, _, _, _, _], box _ _ [_, _, _]] [_, _, _, _, _, _, _, _, _, _] rfl rfl (by simp only [upd_pend, upd_base, flatP, updV_zero, updV_succ]; rfl) rfl rfl ?_
      refine JC_seq ?_
      refine JC_seq ?_
      refine JC_region ?_
      refine JL_move rfl ?_
      refine JL_neq rfl rfl ?_
      refine JL_split (fun h28 => ?_) (fun h28 => ?_)
      · have hz : q3 = 0 := Classical.byContradiction (fun h => h28 (if_neg h))
        refine JL_done_up 52 [box _ _ [_, _, _, _, _, _], box _ _ [_, _, _, _, _, _], box _ _ [_, _, _, _, _, _], box _ _ [_, _, _]] [_, _, _, _, _, _, _, _, _, _] rfl rfl (by simp only [upd_pend, upd_base, flatP, updV_zero, updV_succ]; rfl) rfl rfl ?_
        refine JC_true rfl ?_
        refine JC_seq ?_
        refine JC_region ?_
        refine JL_build (cs := [_, _, _, _, _, _]) [] st28 rfl rfl ?_
        refine JL_move rfl ?_
        refine JL_store (vs := [_, _, _, _, _, _]) 2 ty28 rfl rfl rfl (AllOne.cons rfl (AllOne.cons rfl (AllOne.cons rfl (AllOne.cons rfl (AllOne.cons rfl (AllOne.cons rfl AllOne.nil)))))) rfl (Nat.le_of_ble_eq_true rfl) ?_
        refine JL_assign rfl ?_
        refine JL_done_up 52 [box _ _ [_, _, _, _, _, _], box _ _ [_, _, _, _, _, _], box _ _ [_, _, _, _, _, _], box _ _ [_, _, _]] [_, _, _, _, _, _, _, _, _, _] rfl rfl (by simp only [upd_pend, upd_base, flatP, updV_zero, updV_succ]; rfl) rfl rfl ?_
        refine JC_ret ?_
        refine JE_then_ret ?_
        have hv : v2 q1 q2 q3 q4 = true := by unfold v2; rw [h11, h15]; rfl
        have hs : svV q1 q2 q3 q4 = false := by unfold svV; rw [hv, decide_eq_true hz]; rfl
        have he : svE q1 q2 q3 q4 = 12 := by unfold svE; rw [hv, if_pos hz]; rfl
        have hd : dve q3 = 12 := if_pos hz
        refine JE_nilView ?_
        refine JE_ret (vs := [_, _]) [vCells none (u32s []), vCells none (u32s []), vCells none (u32s []), vCells none (u32s [])] Tryd.results14 ⟨RV.cell (vs := [_, _, _, _, _, _]) 2 ty28 rfl rfl ⟨rfl, rfl, rfl, rfl, rfl, rfl, trivial⟩, rfl, rfl⟩ ?_ ?_
        · exact ⟨none, 0, none, 0, none, 0, none, 0, by rw [hs, he, hd]; rfl, by rw [hs]; rfl⟩
        · exact (all_cons (by repeat (first | with_reducible exact mm0 | refine mmS ?_)) (all_cons (by repeat (first | with_reducible exact mm0 | refine mmS ?_)) (all_cons (by repeat (first | with_reducible exact mm0 | refine mmS ?_)) (all_cons (by repeat (first | with_reducible exact mm0 | refine mmS ?_)) all_nil))))
      · have hz : ¬ q3 = 0 := fun h => h28 (fun e => by rw [dve, if_pos h] at e; exact absurd e (by decide))
        refine JL_done_up 52 [box _ _ [_, _, _, _, _, _], box _ _ [_, _, _, _, _, _], box _ _ [_, _, _, _, _, _], box _ _ [_, _, _]] [_, _, _, _, _, _, _, _, _, _] rfl rfl (by simp only [upd_pend, upd_base, flatP, updV_zero, updV_succ]; rfl) rfl rfl ?_
        refine JC_false rfl ?_
        refine JC_skip ?_
        refine JE_then ?_
        refine JC_seq ?_
        refine JC_region ?_
        refine JL_fieldAddr fo28_0 rfl ?_
        refine JL_loadA (vs := [_, _, _]) 0 ty26 rfl rfl ⟨rfl, rfl, rfl, trivial⟩ ?_
        refine JL_fieldAddr fo28_1 rfl ?_
        refine JL_loadA (vs := [_, _, _]) 1 ty26 rfl rfl ⟨rfl, rfl, rfl, trivial⟩ ?_
        refine JL_callF' (Asks.cons (holds_of_mem (by repeat (first | with_reducible exact mm0 | refine mmS ?_))) (Asks.cons (holds_of_mem (by repeat (first | with_reducible exact mm0 | refine mmS ?_))) (Asks.cons (holds_of_mem (by repeat (first | with_reducible exact mm0 | refine mmS ?_))) (Asks.cons (holds_of_mem (by repeat (first | with_reducible exact mm0 | refine mmS ?_))) Asks.nil)))) (fdivq_con (g1.mono (by omega)) (g4.mono (by omega))) rfl ca18 ⟨rfl, rfl, rfl⟩ ?_
        rintro _ _ ⟨adl, cpl, bel, cel, rfl, rfl⟩
        refine JL_move rfl ?_
        refine JL_extract rfl rfl ?_
        refine JL_extract rfl rfl ?_
        refine JL_alloc z26 (fun b8 => ?_)
        refine JL_store (vs := [_, _, _]) 4 ty26 rfl rfl rfl (AllOne.cons rfl (AllOne.cons rfl (AllOne.cons rfl AllOne.nil))) rfl (Nat.le_of_ble_eq_true rfl) ?_
        refine JL_assign rfl ?_
        refine JL_done_up 52 [box _ _ [_, _, _, _, _, _], box _ _ [_, _, _, _, _, _], box _ _ [_, _, _, _, _, _], box _ _ [_, _, _], box _ _ [_, _, _]] [_, _, _, _, _, _, _, _, _, _, _, _] rfl rfl (by simp only [upd_pend, upd_base, flatP, updV_zero, updV_succ]; rfl) rfl rfl ?_
        refine JC_seq ?_
        refine JC_seq ?_
        refine JC_drawT mixed 2 [spV 39 [] _, spC 40 [] _] ⟨OblS_V (fun vals ex ψ => (by
            refine JL_normQ ⟨52, [(39, _), (40, _)], _⟩ (_ :: _ :: _ :: _ :: _ :: _ :: _ :: _ :: _ :: _ :: _ :: _ :: ψ) rfl rfl ?_
            refine JL_loadA (vs := [_, _, _]) 4 ty26 rfl rfl ⟨rfl, rfl, rfl, trivial⟩ ?_
            exact JL_nil (JE_stepV rfl ss0))), OblS_C (fun vals ex ψ => (by
            refine JL_normQ ⟨52, [(39, _), (40, _)], _⟩ (_ :: _ :: _ :: _ :: _ :: _ :: _ :: _ :: _ :: _ :: _ :: _ :: ψ) rfl rfl ?_
            refine JL_callF' Asks.nil (ione_con) rfl ca32 rfl ?_
            exact fun v φo hP => JL_nil (JE_stepC φo rfl hP (fun p hp => mapB_l hp) (fun p hp => mapB_r (ss0 p hp))))), trivial⟩ (by kernel_rfl) (fun vals bs => ?_)
        refine JL_normL [_, _] ⟨52, [(39, _), (40, _)], _⟩ [box _ _ [_, _, _, _, _, _], box _ _ [_, _, _, _, _, _], box _ _ [_, _, _, _, _, _], box _ _ [_, _, _], box _ _ [_, _, _]] [_, _, _, _, _, _, _, _, _, _, _, _, _] rfl rfl rfl rfl ?_
        generalize vals (0 + 1) = x40
        refine JL_usePost mm0 (fun φo hP => ?_)
        obtain ⟨ad40, cp40, be40, ce40, rfl, rfl⟩ := hP
        refine JL_norm _ [box _ _ [_, _, _, _, _, _], box _ _ [_, _, _, _, _, _], box _ _ [_, _, _, _, _, _], box _ _ [_, _, _], box _ _ [_, _, _]] [_, _, _, _, _, _, _, _, _, _, _, _, _, _, _] rfl rfl rfl ?_
        refine JL_callF' (Asks.cons (holds_of_mem (by repeat (first | with_reducible exact mm0 | refine mmS ?_))) (Asks.cons (holds_of_mem (by repeat (first | with_reducible exact mm0 | refine mmS ?_))) (Asks.cons (holds_of_mem (by repeat (first | with_reducible exact mm0 | refine mmS ?_))) (Asks.cons (holds_of_mem (by repeat (first | with_reducible exact mm0 | refine mmS ?_))) Asks.nil)))) (fcmpq_con (FIn.of (o := dvq q1 q4) (hqA.mono (by decide))) (FIn.some (hqO.mono (by decide)))) rfl ca17 ⟨rfl, rfl, rfl⟩ ?_
        rintro _ _ ⟨rfl, rfl⟩
        refine JL_gtr rfl rfl ?_
        refine JL_split (fun h42 => ?_) (fun h42 => ?_)
        · have hc : oneQ < fval (dvq q1 q4) := cmpQ_pos.1 h42
          refine JL_done_up 52 [box _ _ [_, _, _, _, _, _], box _ _ [_, _, _, _, _, _], box _ _ [_, _, _, _, _, _], box _ _ [_, _, _], box _ _ [_, _, _]] [_, _, _, _, _, _, _, _, _, _, _, _, _, _, _] rfl rfl (by simp only [upd_pend, upd_base, flatP, updV_zero, updV_succ]; rfl) rfl rfl ?_
          refine JC_true rfl ?_
          refine JC_seq ?_
          refine JC_region ?_
          refine JL_build (cs := [_, _, _, _, _, _]) [] st28 rfl rfl ?_
          refine JL_store (vs := [_, _, _, _, _, _]) 2 ty28 rfl rfl rfl (AllOne.cons rfl (AllOne.cons rfl (AllOne.cons rfl (AllOne.cons rfl (AllOne.cons rfl (AllOne.cons rfl AllOne.nil)))))) rfl (Nat.le_of_ble_eq_true rfl) ?_
          refine JL_assign rfl ?_
          refine JL_done_up 52 [box _ _ [_, _, _, _, _, _], box _ _ [_, _, _, _, _, _], box _ _ [_, _, _, _, _, _], box _ _ [_, _, _], box _ _ [_, _, _]] [_, _, _, _, _, _, _, _, _, _, _, _, _, _, _] rfl rfl (by simp only [upd_pend, upd_base, flatP, updV_zero, updV_succ]; rfl) rfl rfl ?_
          refine JC_ret ?_
          refine JE_then_ret ?_
          have hv : v2 q1 q2 q3 q4 = true := by unfold v2; rw [h11, h15]; rfl
          have hs : svV q1 q2 q3 q4 = false := by unfold svV; rw [hv, decide_eq_false hz, decide_eq_true hc]; rfl
          have he : svE q1 q2 q3 q4 = 10 := by unfold svE; rw [hv, if_neg hz, if_pos hc]; rfl
          refine JE_nilView ?_
          refine JE_ret (vs := [_, _]) [vCells none (u32s []), vCells none (u32s []), vCells none (u32s []), vCells none (u32s [])] Tryd.results14 ⟨RV.cell (vs := [_, _, _, _, _, _]) 2 ty28 rfl rfl ⟨rfl, rfl, rfl, rfl, rfl, rfl, trivial⟩, rfl, rfl⟩ ?_ ?_
          · exact ⟨none, 0, none, 0, none, 0, none, 0, by rw [hs, he]; rfl, by rw [hs]; rfl⟩
          · exact (all_cons (by repeat (first | with_reducible exact mm0 | refine mmS ?_)) (all_cons (by repeat (first | with_reducible exact mm0 | refine mmS ?_)) (all_cons (by repeat (first | with_reducible exact mm0 | refine mmS ?_)) (all_cons (by repeat (first | with_reducible exact mm0 | refine mmS ?_)) all_nil))))
        · have hc : ¬ oneQ < fval (dvq q1 q4) := fun h => h42 (cmpQ_pos.2 h)
          refine JL_done_up 52 [box _ _ [_, _, _, _, _, _], box _ _ [_, _, _, _, _, _], box _ _ [_, _, _, _, _, _], box _ _ [_, _, _], box _ _ [_, _, _]] [_, _, _, _, _, _, _, _, _, _, _, _, _, _, _] rfl rfl (by simp only [upd_pend, upd_base, flatP, updV_zero, updV_succ]; rfl) rfl rfl ?_
          refine JC_false rfl ?_
          refine JC_skip ?_
          refine JE_then ?_
          refine JC_seq ?_
          refine JC_seq ?_
          refine JC_drawT mixed 2 [spV 44 [] _, spC 45 [] _] ⟨OblS_V (fun vals ex ψ => (by
              refine JL_normQ ⟨52, [(44, _), (45, _)], _⟩ (_ :: _ :: _ :: _ :: _ :: _ :: _ :: _ :: _ :: _ :: _ :: _ :: _ :: _ :: _ :: ψ) rfl rfl ?_
              refine JL_loadA (vs := [_, _, _]) 3 ty26 rfl rfl ⟨rfl, rfl, rfl, trivial⟩ ?_
              exact JL_nil (JE_stepV rfl ss0))), OblS_C (fun vals ex ψ => (by
              refine JL_normQ ⟨52, [(44, _), (45, _)], _⟩ (_ :: _ :: _ :: _ :: _ :: _ :: _ :: _ :: _ :: _ :: _ :: _ :: _ :: _ :: _ :: ψ) rfl rfl ?_
              refine JL_callF' Asks.nil (ione_con) rfl ca32 rfl ?_
              exact fun v φo hP => JL_nil (JE_stepC φo rfl hP (fun p hp => mapB_l hp) (fun p hp => mapB_r (ss0 p hp))))), trivial⟩ (by kernel_rfl) (fun vals bs => ?_)
          refine JL_normL [_, _] ⟨52, [(44, _), (45, _)], _⟩ [box _ _ [_, _, _, _, _, _], box _ _ [_, _, _, _, _, _], box _ _ [_, _, _, _, _, _], box _ _ [_, _, _], box _ _ [_, _, _]] [_, _, _, _, _, _, _, _, _, _, _, _, _, _, _, _] rfl rfl rfl rfl ?_
          generalize vals (0 + 1) = x45
          refine JL_usePost mm0 (fun φo hP => ?_)
          obtain ⟨ad45, cp45, be45, ce45, rfl, rfl⟩ := hP
          refine JL_norm _ [box _ _ [_, _, _, _, _, _], box _ _ [_, _, _, _, _, _], box _ _ [_, _, _, _, _, _], box _ _ [_, _, _], box _ _ [_, _, _]] [_, _, _, _, _, _, _, _, _, _, _, _, _, _, _, _, _, _] rfl rfl rfl ?_
          refine JL_callF' (Asks.cons (holds_of_mem (by repeat (first | with_reducible exact mm0 | refine mmS ?_))) (Asks.cons (holds_of_mem (by repeat (first | with_reducible exact mm0 | refine mmS ?_))) (Asks.cons (holds_of_mem (by repeat (first | with_reducible exact mm0 | refine mmS ?_))) (Asks.cons (holds_of_mem (by repeat (first | with_reducible exact mm0 | refine mmS ?_))) Asks.nil)))) (fcmpq_con (FIn.of (o := dvq q2 q3) (hqB.mono (by decide))) (FIn.some (hqO.mono (by decide)))) rfl ca17 ⟨rfl, rfl, rfl⟩ ?_
          rintro _ _ ⟨rfl, rfl⟩
          refine JL_gtr rfl rfl ?_
          refine JL_split (fun h47 => ?_) (fun h47 => ?_)
          · have hh : svH q2 q3 = oneQ := if_pos (cmpQ_pos.1 h47)
            refine JL_done_up 52 [box _ _ [_, _, _, _, _, _], box _ _ [_, _, _, _, _, _], box _ _ [_, _, _, _, _, _], box _ _ [_, _, _], box _ _ [_, _, _]] [_, _, _, _, _, _, _, _, _, _, _, _, _, _, _, _, _, _] rfl rfl (by simp only [upd_pend, upd_base, flatP, updV_zero, updV_succ]; rfl) rfl rfl ?_
            refine JC_true rfl ?_
            refine JC_region ?_
            refine JL_callF' Asks.nil (ione_con) rfl ca32 rfl ?_
            rintro _ _ ⟨adh, cph, beh, ceh, rfl, rfl⟩
            refine JL_store (vs := [_, _, _]) 3 ty26 rfl rfl rfl (AllOne.cons rfl (AllOne.cons rfl (AllOne.cons rfl AllOne.nil))) rfl (Nat.le_of_ble_eq_true rfl) ?_
            refine JL_done_up 52 [box _ _ [_, _, _, _, _, _], box _ _ [_, _, _, _, _, _], box _ _ [_, _, _, _, _, _], box _ _ [_, _, _], box _ _ [_, _, _]] [_, _, _, _, _, _, _, _, _, _, _, _, _, _, _, _, _, _, _, _] rfl rfl (by simp only [upd_pend, upd_base, flatP, updV_zero, updV_succ]; rfl) rfl rfl ?_
            refine JC_seq ?_
            refine JC_region ?_
            refine JL_loadA (vs := [_, _, _]) 4 ty26 rfl rfl ⟨rfl, rfl, rfl, trivial⟩ ?_
            refine JL_loadA (vs := [_, _, _]) 3 ty26 rfl rfl ⟨rfl, rfl, rfl, trivial⟩ ?_
            refine JL_build (cs := [_, _, _, _, _, _]) [(0, [_, _, _]), (1, [_, _, _])] st28 ⟨⟨rfl, _, rfl, rfl⟩, ⟨rfl, _, rfl, rfl⟩, rfl⟩ rfl ?_
            refine JL_store (vs := [_, _, _, _, _, _]) 2 ty28 rfl rfl rfl (AllOne.cons rfl (AllOne.cons rfl (AllOne.cons rfl (AllOne.cons rfl (AllOne.cons rfl (AllOne.cons rfl AllOne.nil)))))) rfl (Nat.le_of_ble_eq_true rfl) ?_
            refine JL_assign rfl ?_
            refine JL_done_up 52 [box _ _ [_, _, _, _, _, _], box _ _ [_, _, _, _, _, _], box _ _ [_, _, _, _, _, _], box _ _ [_, _, _], box _ _ [_, _, _]] [_, _, _, _, _, _, _, _, _, _, _, _, _, _, _, _, _, _, _, _] rfl rfl (by simp only [upd_pend, upd_base, flatP, updV_zero, updV_succ]; rfl) rfl rfl ?_
            refine JC_ret ?_
            have hv : v2 q1 q2 q3 q4 = true := by unfold v2; rw [h11, h15]; rfl
            have hs : svV q1 q2 q3 q4 = true := by unfold svV; rw [hv, decide_eq_false hz, decide_eq_false hc]; rfl
            have he : svE q1 q2 q3 q4 = 0 := by unfold svE; rw [hv, if_neg hz, if_neg hc]; rfl
            have hdA : dvq q1 q4 = some (fval (dvq q1 q4)) := by
              have hq4 : ¬ q4 = 0 := by
                unfold v2 at hv; rw [Bool.and_eq_true, vld_iff, vld_iff] at hv; obtain ⟨_, a, b⟩ := hv; intro h; rw [h] at b; exact hz (Rat.le_antisymm b a)
              unfold dvq; rw [if_neg hq4]; rfl
            have hdB : dvq q2 q3 = some (fval (dvq q2 q3)) := by unfold dvq; rw [if_neg hz]; rfl
            refine JE_ret (vs := [_, _]) [vCells adl (u32s (fnum (dvq q1 q4))), vCells bel (u32s (fden (dvq q1 q4))), vCells adh (u32s (fnum (some oneQ))), vCells beh (u32s (fden (some oneQ)))] Tryd.results14 ⟨RV.cell (vs := [_, _, _, _, _, _]) 2 ty28 rfl rfl ⟨rfl, rfl, rfl, rfl, rfl, rfl, trivial⟩, rfl, rfl⟩ ?_ ?_
            · rw [hs, he, onv_t, onv_t, ← hdA, hh]; exact ⟨adl, cpl, bel, cel, adh, cph, beh, ceh, rfl, rfl⟩
            · exact (all_cons (by repeat (first | with_reducible exact mm0 | refine mmS ?_)) (all_cons (by repeat (first | with_reducible exact mm0 | refine mmS ?_)) (all_cons (by repeat (first | with_reducible exact mm0 | refine mmS ?_)) (all_cons (by repeat (first | with_reducible exact mm0 | refine mmS ?_)) all_nil))))
          · have hh : svH q2 q3 = fval (dvq q2 q3) := if_neg (fun h => h47 (cmpQ_pos.2 h))
            refine JL_done_up 52 [box _ _ [_, _, _, _, _, _], box _ _ [_, _, _, _, _, _], box _ _ [_, _, _, _, _, _], box _ _ [_, _, _], box _ _ [_, _, _]] [_, _, _, _, _, _, _, _, _, _, _, _, _, _, _, _, _, _] rfl rfl (by simp only [upd_pend, upd_base, flatP, updV_zero, updV_succ]; rfl) rfl rfl ?_
            refine JC_false rfl ?_
            refine JC_skip ?_
            refine JE_then ?_
            refine JC_seq ?_
            refine JC_region ?_
            refine JL_loadA (vs := [_, _, _]) 4 ty26 rfl rfl ⟨rfl, rfl, rfl, trivial⟩ ?_
            refine JL_loadA (vs := [_, _, _]) 3 ty26 rfl rfl ⟨rfl, rfl, rfl, trivial⟩ ?_
            refine JL_build (cs := [_, _, _, _, _, _]) [(0, [_, _, _]), (1, [_, _, _])] st28 ⟨⟨rfl, _, rfl, rfl⟩, ⟨rfl, _, rfl, rfl⟩, rfl⟩ rfl ?_
            refine JL_store (vs := [_, _, _, _, _, _]) 2 ty28 rfl rfl rfl (AllOne.cons rfl (AllOne.cons rfl (AllOne.cons rfl (AllOne.cons rfl (AllOne.cons rfl (AllOne.cons rfl AllOne.nil)))))) rfl (Nat.le_of_ble_eq_true rfl) ?_
            refine JL_assign rfl ?_
            refine JL_done_up 52 [box _ _ [_, _, _, _, _, _], box _ _ [_, _, _, _, _, _], box _ _ [_, _, _, _, _, _], box _ _ [_, _, _], box _ _ [_, _, _]] [_, _, _, _, _, _, _, _, _, _, _, _, _, _, _, _, _, _] rfl rfl (by simp only [upd_pend, upd_base, flatP, updV_zero, updV_succ]; rfl) rfl rfl ?_
            refine JC_ret ?_
            have hv : v2 q1 q2 q3 q4 = true := by unfold v2; rw [h11, h15]; rfl
            have hs : svV q1 q2 q3 q4 = true := by unfold svV; rw [hv, decide_eq_false hz, decide_eq_false hc]; rfl
            have he : svE q1 q2 q3 q4 = 0 := by unfold svE; rw [hv, if_neg hz, if_neg hc]; rfl
            have hdA : dvq q1 q4 = some (fval (dvq q1 q4)) := by
              have hq4 : ¬ q4 = 0 := by
                unfold v2 at hv; rw [Bool.and_eq_true, vld_iff, vld_iff] at hv; obtain ⟨_, a, b⟩ := hv; intro h; rw [h] at b; exact hz (Rat.le_antisymm b a)
              unfold dvq; rw [if_neg hq4]; rfl
            have hdB : dvq q2 q3 = some (fval (dvq q2 q3)) := by unfold dvq; rw [if_neg hz]; rfl
            refine JE_ret (vs := [_, _]) [vCells adl (u32s (fnum (dvq q1 q4))), vCells bel (u32s (fden (dvq q1 q4))), vCells adh (u32s (fnum (dvq q2 q3))), vCells beh (u32s (fden (dvq q2 q3)))] Tryd.results14 ⟨RV.cell (vs := [_, _, _, _, _, _]) 2 ty28 rfl rfl ⟨rfl, rfl, rfl, rfl, rfl, rfl, trivial⟩, rfl, rfl⟩ ?_ ?_
            · rw [hs, he, onv_t, onv_t, ← hdA, hh, ← hdB]; exact ⟨adl, cpl, bel, cel, adh, cph, beh, ceh, rfl, rfl⟩
            · exact (all_cons (by repeat (first | with_reducible exact mm0 | refine mmS ?_)) (all_cons (by repeat (first | with_reducible exact mm0 | refine mmS ?_)) (all_cons (by repeat (first | with_reducible exact mm0 | refine mmS ?_)) (all_cons (by repeat (first | with_reducible exact mm0 | refine mmS ?_)) all_nil))))
    · refine JL_guard_yes rfl rfl ?_
      refine JL_not rfl ?_
      rw [Bool.not_false]
      refine JL_pick_f rfl rfl ?_
      refine JL_done_up 52 [box _ _ [_, _, _, _, _, _], box _ _ [_, _, _, _, _, _], box _ _ [_, _, _, _, _, _]] [_, _, _, _, _, _, _, _] rfl rfl (by simp only [upd_pend, upd_base, flatP, updV_zero, updV_succ]; rfl) rfl rfl ?_
      refine JC_true rfl ?_
      refine JC_seq ?_
      refine JC_region ?_
      refine JL_build (cs := [_, _, _, _, _, _]) [] st28 rfl rfl ?_
      refine JL_store (vs := [_, _, _, _, _, _]) 2 ty28 rfl rfl rfl (AllOne.cons rfl (AllOne.cons rfl (AllOne.cons rfl (AllOne.cons rfl (AllOne.cons rfl (AllOne.cons rfl AllOne.nil)))))) rfl (Nat.le_of_ble_eq_true rfl) ?_
      refine JL_assign rfl ?_
      refine JL_done_up 52 [box _ _ [_, _, _, _, _, _], box _ _ [_, _, _, _, _, _], box _ _ [_, _, _, _, _, _]] [_, _, _, _, _, _, _, _] rfl rfl (by simp only [upd_pend, upd_base, flatP, updV_zero, updV_succ]; rfl) rfl rfl ?_
      refine JC_ret ?_
      refine JE_then_ret ?_
      have hv : v2 q1 q2 q3 q4 = false := by unfold v2; first | (rw [h11]; rfl) | (rw [h15, Bool.and_false])
      have hs : svV q1 q2 q3 q4 = false := by unfold svV; rw [hv]; rfl
      have he : svE q1 q2 q3 q4 = 1 := by unfold svE; rw [hv]; rfl
      refine JE_nilView ?_
      refine JE_ret (vs := [_, _]) [vCells none (u32s []), vCells none (u32s []), vCells none (u32s []), vCells none (u32s [])] Tryd.results14 ⟨RV.cell (vs := [_, _, _, _, _, _]) 2 ty28 rfl rfl ⟨rfl, rfl, rfl, rfl, rfl, rfl, trivial⟩, rfl, rfl⟩ ?_ ?_
      · exact ⟨none, 0, none, 0, none, 0, none, 0, by rw [hs, he]; rfl, by rw [hs]; rfl⟩
      · exact (all_cons (by repeat (first | with_reducible exact mm0 | refine mmS ?_)) (all_cons (by repeat (first | with_reducible exact mm0 | refine mmS ?_)) (all_cons (by repeat (first | with_reducible exact mm0 | refine mmS ?_)) (all_cons (by repeat (first | with_reducible exact mm0 | refine mmS ?_)) all_nil))))
  · refine JL_not rfl ?_
    rw [Bool.not_false]
    refine JL_move rfl ?_
    refine JL_guard_no rfl rfl ?_
    refine JL_guard_no rfl rfl ?_
    refine JL_guard_no rfl rfl ?_
    refine JL_pick_t rfl rfl ?_
    refine JL_done_up 52 [box _ _ [_, _, _, _, _, _], box _ _ [_, _, _, _, _, _], box _ _ [_, _, _, _, _, _]] [_, _, _, _, _, _, _, _] rfl rfl (by simp only [upd_pend, upd_base, flatP, updV_zero, updV_succ]; rfl) rfl rfl ?_
    refine JC_true rfl ?_
    refine JC_seq ?_
    refine JC_region ?_
    refine JL_build (cs := [_, _, _, _, _, _]) [] st28 rfl rfl ?_
    refine JL_store (vs := [_, _, _, _, _, _]) 2 ty28 rfl rfl rfl (AllOne.cons rfl (AllOne.cons rfl (AllOne.cons rfl (AllOne.cons rfl (AllOne.cons rfl (AllOne.cons rfl AllOne.nil)))))) rfl (Nat.le_of_ble_eq_true rfl) ?_
    refine JL_assign rfl ?_
    refine JL_done_up 52 [box _ _ [_, _, _, _, _, _], box _ _ [_, _, _, _, _, _], box _ _ [_, _, _, _, _, _]] [_, _, _, _, _, _, _, _] rfl rfl (by simp only [upd_pend, upd_base, flatP, updV_zero, updV_succ]; rfl) rfl rfl ?_
    refine JC_ret ?_
    refine JE_then_ret ?_
    have hv : v2 q1 q2 q3 q4 = false := by unfold v2; first | (rw [h11]; rfl) | (rw [h15, Bool.and_false])
    have hs : svV q1 q2 q3 q4 = false := by unfold svV; rw [hv]; rfl
    have he : svE q1 q2 q3 q4 = 1 := by unfold svE; rw [hv]; rfl
    refine JE_nilView ?_
    refine JE_ret (vs := [_, _]) [vCells none (u32s []), vCells none (u32s []), vCells none (u32s []), vCells none (u32s [])] Tryd.results14 ⟨RV.cell (vs := [_, _, _, _, _, _]) 2 ty28 rfl rfl ⟨rfl, rfl, rfl, rfl, rfl, rfl, trivial⟩, rfl, rfl⟩ ?_ ?_
    · exact ⟨none, 0, none, 0, none, 0, none, 0, by rw [hs, he]; rfl, by rw [hs]; rfl⟩
    · exact (all_cons (by repeat (first | with_reducible exact mm0 | refine mmS ?_)) (all_cons (by repeat (first | with_reducible exact mm0 | refine mmS ?_)) (all_cons (by repeat (first | with_reducible exact mm0 | refine mmS ?_)) (all_cons (by repeat (first | with_reducible exact mm0 | refine mmS ?_)) all_nil))))

end Go.Fw.K
