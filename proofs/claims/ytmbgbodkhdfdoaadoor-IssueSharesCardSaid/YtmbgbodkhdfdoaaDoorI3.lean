/- Walks through functions of the given program: each meets its contract. (Printed by a program of this repo.) -/
import Derived.Test.YtmbgbodkhdfdoaaDoorI1
import Derived.Test.YtmbgbodkhdfdoaaDoorProg
namespace Go.Fw.I3
open Go Go.RowKit Go.Proofs Go.Nat9 Go.Fw
attribute [local irreducible] JC JL JE
theorem ca12 : callable Tryd.prog 12 = true := by kernel_rfl
theorem ca15 : callable Tryd.prog 15 = true := by kernel_rfl
theorem ca22 : callable Tryd.prog 22 = true := by kernel_rfl
theorem ca45 : callable Tryd.prog 45 = true := by kernel_rfl
theorem ca49 : callable Tryd.prog 49 = true := by kernel_rfl
theorem ca52 : callable Tryd.prog 52 = true := by kernel_rfl
theorem ca53 : callable Tryd.prog 53 = true := by kernel_rfl
theorem ca54 : callable Tryd.prog 54 = true := by kernel_rfl
theorem fo28_0 : fOf Tryd.prog 28 0 = some 0 := by kernel_rfl
theorem fo28_1 : fOf Tryd.prog 28 1 = some 3 := by kernel_rfl
theorem mixed : Tryd.prog.follows .mixedOrders = true := by kernel_rfl
theorem st28 : stOf Tryd.prog 28 = some ([(0, 3), (3, 3)], [.bool false, .slice none 0 0, .slice none 0 0, .bool false, .slice none 0 0, .slice none 0 0]) := by kernel_rfl
theorem ty26 : tyOf Tryd.prog 26 = some (true, 3) := by kernel_rfl
theorem ty28 : tyOf Tryd.prog 28 = some (true, 6) := by kernel_rfl
theorem z28 : zeroOf Tryd.prog 28 = some [.bool false, .slice none 0 0, .slice none 0 0, .bool false, .slice none 0 0, .slice none 0 0] := by kernel_rfl
end Go.Fw.I3
namespace Go.Fw.K
open Go Go.RowKit Go.Proofs Go.Nat9 Go.Fw Go.Fw.I3
attribute [local irreducible] JC JL JE

theorem imeet_con {s1 : Bool} {ad1 : Option Addr} {n1 c1 : Nat} {L1 : List Nat} {be1 : Option Addr} {m1 e1 : Nat} {M1 : List Nat} {q1 : Rat} (g1 : FIn s1 n1 L1 m1 M1 q1 100000) {s2 : Bool} {ad2 : Option Addr} {n2 c2 : Nat} {L2 : List Nat} {be2 : Option Addr} {m2 e2 : Nat} {M2 : List Nat} {q2 : Rat} (g2 : FIn s2 n2 L2 m2 M2 q2 100000) {s3 : Bool} {ad3 : Option Addr} {n3 c3 : Nat} {L3 : List Nat} {be3 : Option Addr} {m3 e3 : Nat} {M3 : List Nat} {q3 : Rat} (g3 : FIn s3 n3 L3 m3 M3 q3 100000) {s4 : Bool} {ad4 : Option Addr} {n4 c4 : Nat} {L4 : List Nat} {be4 : Option Addr} {m4 e4 : Nat} {M4 : List Nat} {q4 : Rat} (g4 : FIn s4 n4 L4 m4 M4 q4 100000) :
    ConF Tryd.prog 24 [.agg #[.bool s1, .slice ad1 n1 c1, .slice be1 m1 e1, .bool s2, .slice ad2 n2 c2, .slice be2 m2 e2], .agg #[.bool s3, .slice ad3 n3 c3, .slice be3 m3 e3, .bool s4, .slice ad4 n4 c4, .slice be4 m4 e4]] [vCells ad1 (u32s L1), vCells be1 (u32s M1), vCells ad2 (u32s L2), vCells be2 (u32s M2), vCells ad3 (u32s L3), vCells be3 (u32s M3), vCells ad4 (u32s L4), vCells be4 (u32s M4)]
      (SOE (onv (mtV q1 q2 q3 q4) (mlo q1 q3)) (onv (mtV q1 q2 q3 q4) (mhi q2 q4)) (.bool (mtV q1 q2 q3 q4))) := by
  have hb1 := g1.qs.mono (b := 1000000) (by decide)
  have hb2 := g2.qs.mono (b := 1000000) (by decide)
  have hb3 := g3.qs.mono (b := 1000000) (by decide)
  have hb4 := g4.qs.mono (b := 1000000) (by decide)
  refine ConF_of Tryd.func24 rfl 43 _ rfl rfl ?_
  intro w0
  refine JC_norm ⟨43, [], [_, _, _, _, _, _, _, _, _, _, _, _, _, _, _, _, _, _, _, _, _, _, _, _, _, _, _, _, _, _, _, _, _, _, _, _, _, _, _, _, _, _, _]⟩ [] [_, _, _, _, _, _, _, _] rfl rfl rfl ?_
  refine JC_seq ?_
  refine JC_region ?_
  refine JL_box rfl rfl (fun b2 => ?_)
  refine JL_box rfl rfl (fun b3 => ?_)
  refine JL_alloc z28 (fun b4 => ?_)
  refine JL_assign rfl ?_
  refine JL_done_up 43 [box _ _ [_, _, _, _, _, _], box _ _ [_, _, _, _, _, _], box _ _ [_, _, _, _, _, _]] [_, _, _, _, _, _, _, _] rfl rfl (by simp only [upd_pend, upd_base, flatP, updV_zero, updV_succ]; rfl) rfl rfl ?_
  refine JC_seq ?_
  refine JC_seq ?_
  refine JC_region ?_
  refine JL_loadA (vs := [_, _, _, _, _, _]) 0 ty28 rfl rfl ⟨rfl, rfl, rfl, rfl, rfl, rfl, trivial⟩ ?_
  refine JL_callF' (Asks.cons (holds_of_mem (by repeat (first | with_reducible exact mm0 | refine mmS ?_))) (Asks.cons (holds_of_mem (by repeat (first | with_reducible exact mm0 | refine mmS ?_))) (Asks.cons (holds_of_mem (by repeat (first | with_reducible exact mm0 | refine mmS ?_))) (Asks.cons (holds_of_mem (by repeat (first | with_reducible exact mm0 | refine mmS ?_))) Asks.nil)))) (ivalid_con (g1.mono (by omega)) (g2.mono (by omega))) rfl ca15 ⟨rfl, rfl⟩ ?_
  rintro _ _ ⟨rfl, rfl⟩
  refine JL_splitV (fun h8 => ?_) (fun h8 => ?_)
  · refine JL_not rfl ?_
    rw [Bool.not_true]
    refine JL_move rfl ?_
    refine JL_guard_yes rfl rfl ?_
    refine JL_loadA (vs := [_, _, _, _, _, _]) 1 ty28 rfl rfl ⟨rfl, rfl, rfl, rfl, rfl, rfl, trivial⟩ ?_
    refine JL_guard_yes rfl rfl ?_
    refine JL_callF' (Asks.cons (holds_of_mem (by repeat (first | with_reducible exact mm0 | refine mmS ?_))) (Asks.cons (holds_of_mem (by repeat (first | with_reducible exact mm0 | refine mmS ?_))) (Asks.cons (holds_of_mem (by repeat (first | with_reducible exact mm0 | refine mmS ?_))) (Asks.cons (holds_of_mem (by repeat (first | with_reducible exact mm0 | refine mmS ?_))) Asks.nil)))) (ivalid_con (g3.mono (by omega)) (g4.mono (by omega))) rfl ca15 ⟨rfl, rfl⟩ ?_
    rintro _ _ ⟨rfl, rfl⟩
    refine JL_splitV (fun h12 => ?_) (fun h12 => ?_)
    · refine JL_guard_yes rfl rfl ?_
      refine JL_not rfl ?_
      rw [Bool.not_true]
      refine JL_pick_f rfl rfl ?_
      refine JL_done_up 43 [box _ _ [_, _, _, _, _, _], box _ _ [_, _, _, _, _, _], box _ _ [_, _, _, _, _, _]] [_, _, _, _, _, _, _, _] rfl rfl (by simp only [upd_pend, upd_base, flatP, updV_zero, updV_succ]; rfl) rfl rfl ?_
      refine JC_false rfl ?_
      refine JC_skip ?_
      refine JE_then ?_
      refine JC_seq ?_
      refine JC_region ?_
      refine JL_loadA (vs := [_, _, _, _, _, _]) 0 ty28 rfl rfl ⟨rfl, rfl, rfl, rfl, rfl, rfl, trivial⟩ ?_
      refine JL_callF' (Asks.cons (holds_of_mem (by repeat (first | with_reducible exact mm0 | refine mmS ?_))) (Asks.cons (holds_of_mem (by repeat (first | with_reducible exact mm0 | refine mmS ?_))) (Asks.cons (holds_of_mem (by repeat (first | with_reducible exact mm0 | refine mmS ?_))) (Asks.cons (holds_of_mem (by repeat (first | with_reducible exact mm0 | refine mmS ?_))) Asks.nil)))) (inorm_con (g1.mono (by omega)) (g2.mono (by omega))) rfl ca53 ⟨rfl, rfl⟩ ?_
      rintro _ _ ⟨adl, cpl, bel, cel, adh, cph, beh, ceh, rfl, rfl⟩
      refine JL_alloc z28 (fun b6 => ?_)
      refine JL_store (vs := [_, _, _, _, _, _]) 3 ty28 rfl rfl rfl (AllOne.cons rfl (AllOne.cons rfl (AllOne.cons rfl (AllOne.cons rfl (AllOne.cons rfl (AllOne.cons rfl AllOne.nil)))))) rfl (Nat.le_of_ble_eq_true rfl) ?_
      refine JL_done_up 43 [box _ _ [_, _, _, _, _, _], box _ _ [_, _, _, _, _, _], box _ _ [_, _, _, _, _, _], box _ _ [_, _, _, _, _, _]] [_, _, _, _, _, _, _, _, _, _, _, _] rfl rfl (by simp only [upd_pend, upd_base, flatP, updV_zero, updV_succ]; rfl) rfl rfl ?_
      refine JC_seq ?_
      refine JC_seq ?_
      refine JC_region ?_
      refine JL_fieldAddr fo28_0 rfl ?_
      refine JL_loadA (vs := [_, _, _]) 1 ty26 rfl rfl ⟨rfl, rfl, rfl, trivial⟩ ?_
      refine JL_fieldAddr fo28_0 rfl ?_
      refine JL_loadA (vs := [_, _, _]) 3 ty26 rfl rfl ⟨rfl, rfl, rfl, trivial⟩ ?_
      refine JL_callF' (Asks.cons (holds_of_mem (by repeat (first | with_reducible exact mm0 | refine mmS ?_))) (Asks.cons (holds_of_mem (by repeat (first | with_reducible exact mm0 | refine mmS ?_))) (Asks.cons (holds_of_mem (by repeat (first | with_reducible exact mm0 | refine mmS ?_))) (Asks.cons (holds_of_mem (by repeat (first | with_reducible exact mm0 | refine mmS ?_))) Asks.nil)))) (fcmpq_con (g3.mono (by omega)) (FIn.some (by assumption))) rfl ca45 ⟨rfl, rfl, rfl⟩ ?_
      rintro _ _ ⟨rfl, rfl⟩
      refine JL_gtr rfl rfl ?_
      refine JL_split (fun h23 => ?_) (fun h23 => ?_)
      · have hlo : mlo q1 q3 = q3 := if_pos (cmpQ_pos.1 h23)
        refine JL_done_up 43 [box _ _ [_, _, _, _, _, _], box _ _ [_, _, _, _, _, _], box _ _ [_, _, _, _, _, _], box _ _ [_, _, _, _, _, _]] [_, _, _, _, _, _, _, _, _, _, _, _] rfl rfl (by simp only [upd_pend, upd_base, flatP, updV_zero, updV_succ]; rfl) rfl rfl ?_
        refine JC_true rfl ?_
        refine JC_region ?_
        refine JL_fieldAddr fo28_0 rfl ?_
        refine JL_loadA (vs := [_, _, _]) 1 ty26 rfl rfl ⟨rfl, rfl, rfl, trivial⟩ ?_
        refine JL_callF' (Asks.cons (holds_of_mem (by repeat (first | with_reducible exact mm0 | refine mmS ?_))) (Asks.cons (holds_of_mem (by repeat (first | with_reducible exact mm0 | refine mmS ?_))) Asks.nil)) (fnorm_con (g3.mono (by omega))) rfl ca54 ⟨rfl, rfl⟩ ?_
        rintro _ _ ⟨adl, cpl, bel, cel, rfl, rfl⟩
        refine JL_fieldAddr fo28_0 rfl ?_
        refine JL_store (vs := [_, _, _]) 3 ty26 rfl rfl rfl (AllOne.cons rfl (AllOne.cons rfl (AllOne.cons rfl AllOne.nil))) rfl (Nat.le_of_ble_eq_true rfl) ?_
        refine JL_done_up 43 [box _ _ [_, _, _, _, _, _], box _ _ [_, _, _, _, _, _], box _ _ [_, _, _, _, _, _], box _ _ [_, _, _, _, _, _]] [_, _, _, _, _, _, _, _, _, _, _, _, _, _] rfl rfl (by simp only [upd_pend, upd_base, flatP, updV_zero, updV_succ]; rfl) rfl rfl ?_
        refine JC_seq ?_
        refine JC_seq ?_
        refine JC_region ?_
        refine JL_fieldAddr fo28_1 rfl ?_
        refine JL_loadA (vs := [_, _, _]) 1 ty26 rfl rfl ⟨rfl, rfl, rfl, trivial⟩ ?_
        refine JL_fieldAddr fo28_1 rfl ?_
        refine JL_loadA (vs := [_, _, _]) 3 ty26 rfl rfl ⟨rfl, rfl, rfl, trivial⟩ ?_
        refine JL_callF' (Asks.cons (holds_of_mem (by repeat (first | with_reducible exact mm0 | refine mmS ?_))) (Asks.cons (holds_of_mem (by repeat (first | with_reducible exact mm0 | refine mmS ?_))) (Asks.cons (holds_of_mem (by repeat (first | with_reducible exact mm0 | refine mmS ?_))) (Asks.cons (holds_of_mem (by repeat (first | with_reducible exact mm0 | refine mmS ?_))) Asks.nil)))) (fcmpq_con (g4.mono (by omega)) (FIn.some (by assumption))) rfl ca45 ⟨rfl, rfl, rfl⟩ ?_
        rintro _ _ ⟨rfl, rfl⟩
        refine JL_lss rfl rfl ?_
        refine JL_split (fun h33 => ?_) (fun h33 => ?_)
        · have hhi : mhi q2 q4 = q4 := if_pos (cmpQ_neg.1 h33)
          refine JL_done_up 43 [box _ _ [_, _, _, _, _, _], box _ _ [_, _, _, _, _, _], box _ _ [_, _, _, _, _, _], box _ _ [_, _, _, _, _, _]] [_, _, _, _, _, _, _, _, _, _, _, _, _, _] rfl rfl (by simp only [upd_pend, upd_base, flatP, updV_zero, updV_succ]; rfl) rfl rfl ?_
          refine JC_true rfl ?_
          refine JC_region ?_
          refine JL_fieldAddr fo28_1 rfl ?_
          refine JL_loadA (vs := [_, _, _]) 1 ty26 rfl rfl ⟨rfl, rfl, rfl, trivial⟩ ?_
          refine JL_callF' (Asks.cons (holds_of_mem (by repeat (first | with_reducible exact mm0 | refine mmS ?_))) (Asks.cons (holds_of_mem (by repeat (first | with_reducible exact mm0 | refine mmS ?_))) Asks.nil)) (fnorm_con (g4.mono (by omega))) rfl ca54 ⟨rfl, rfl⟩ ?_
          rintro _ _ ⟨adh, cph, beh, ceh, rfl, rfl⟩
          refine JL_fieldAddr fo28_1 rfl ?_
          refine JL_store (vs := [_, _, _]) 3 ty26 rfl rfl rfl (AllOne.cons rfl (AllOne.cons rfl (AllOne.cons rfl AllOne.nil))) rfl (Nat.le_of_ble_eq_true rfl) ?_
          refine JL_done_up 43 [box _ _ [_, _, _, _, _, _], box _ _ [_, _, _, _, _, _], box _ _ [_, _, _, _, _, _], box _ _ [_, _, _, _, _, _]] [_, _, _, _, _, _, _, _, _, _, _, _, _, _, _, _] rfl rfl (by simp only [upd_pend, upd_base, flatP, updV_zero, updV_succ]; rfl) rfl rfl ?_
          refine JC_seq ?_
          refine JC_seq ?_
          refine JC_region ?_
          refine JL_loadA (vs := [_, _, _, _, _, _]) 3 ty28 rfl rfl ⟨rfl, rfl, rfl, rfl, rfl, rfl, trivial⟩ ?_
          refine JL_callF' (Asks.cons (holds_of_mem (by repeat (first | with_reducible exact mm0 | refine mmS ?_))) (Asks.cons (holds_of_mem (by repeat (first | with_reducible exact mm0 | refine mmS ?_))) (Asks.cons (holds_of_mem (by repeat (first | with_reducible exact mm0 | refine mmS ?_))) (Asks.cons (holds_of_mem (by repeat (first | with_reducible exact mm0 | refine mmS ?_))) Asks.nil)))) (ivalid_con (FIn.some (by assumption)) (FIn.some (by assumption))) rfl ca15 ⟨rfl, rfl⟩ ?_
          rintro _ _ ⟨rfl, rfl⟩
          refine JL_splitV (fun h39 => ?_) (fun h39 => ?_)
          · refine JL_not rfl ?_
            rw [Bool.not_true]
            refine JL_done_up 43 [box _ _ [_, _, _, _, _, _], box _ _ [_, _, _, _, _, _], box _ _ [_, _, _, _, _, _], box _ _ [_, _, _, _, _, _]] [_, _, _, _, _, _, _, _, _, _, _, _, _, _, _, _] rfl rfl (by simp only [upd_pend, upd_base, flatP, updV_zero, updV_succ]; rfl) rfl rfl ?_
            refine JC_false rfl ?_
            refine JC_skip ?_
            refine JE_then ?_
            refine JC_seq ?_
            refine JC_region ?_
            refine JL_loadA (vs := [_, _, _, _, _, _]) 3 ty28 rfl rfl ⟨rfl, rfl, rfl, rfl, rfl, rfl, trivial⟩ ?_
            refine JL_store (vs := [_, _, _, _, _, _]) 2 ty28 rfl rfl rfl (AllOne.cons rfl (AllOne.cons rfl (AllOne.cons rfl (AllOne.cons rfl (AllOne.cons rfl (AllOne.cons rfl AllOne.nil)))))) rfl (Nat.le_of_ble_eq_true rfl) ?_
            refine JL_assign rfl ?_
            refine JL_done_up 43 [box _ _ [_, _, _, _, _, _], box _ _ [_, _, _, _, _, _], box _ _ [_, _, _, _, _, _], box _ _ [_, _, _, _, _, _]] [_, _, _, _, _, _, _, _, _, _, _, _, _, _, _, _] rfl rfl (by simp only [upd_pend, upd_base, flatP, updV_zero, updV_succ]; rfl) rfl rfl ?_
            refine JC_ret ?_
            have hv : v2 q1 q2 q3 q4 = true := by unfold v2; rw [h8, h12]; rfl
            have hm : mtV q1 q2 q3 q4 = true := by rw [mtV, hv, hlo, hhi, h39]; rfl
            refine JE_ret (vs := [_, _]) [vCells adl (u32s (fnum (some (q3)))), vCells bel (u32s (fden (some (q3)))), vCells adh (u32s (fnum (some (q4)))), vCells beh (u32s (fden (some (q4))))] Tryd.results24 ⟨RV.cell (vs := [_, _, _, _, _, _]) 2 ty28 rfl rfl ⟨rfl, rfl, rfl, rfl, rfl, rfl, trivial⟩, rfl, rfl⟩ ?_ ?_
            · rw [hm, hlo, hhi]; exact ⟨adl, cpl, bel, cel, adh, cph, beh, ceh, rfl, rfl⟩
            · exact (all_cons (by repeat (first | with_reducible exact mm0 | refine mmS ?_)) (all_cons (by repeat (first | with_reducible exact mm0 | refine mmS ?_)) (all_cons (by repeat (first | with_reducible exact mm0 | refine mmS ?_)) (all_cons (by repeat (first | with_reducible exact mm0 | refine mmS ?_)) all_nil))))
          · refine JL_not rfl ?_
            rw [Bool.not_false]
            refine JL_done_up 43 [box _ _ [_, _, _, _, _, _], box _ _ [_, _, _, _, _, _], box _ _ [_, _, _, _, _, _], box _ _ [_, _, _, _, _, _]] [_, _, _, _, _, _, _, _, _, _, _, _, _, _, _, _] rfl rfl (by simp only [upd_pend, upd_base, flatP, updV_zero, updV_succ]; rfl) rfl rfl ?_
            refine JC_true rfl ?_
            refine JC_seq ?_
            refine JC_region ?_
            refine JL_build (cs := [_, _, _, _, _, _]) [] st28 rfl rfl ?_
            refine JL_store (vs := [_, _, _, _, _, _]) 2 ty28 rfl rfl rfl (AllOne.cons rfl (AllOne.cons rfl (AllOne.cons rfl (AllOne.cons rfl (AllOne.cons rfl (AllOne.cons rfl AllOne.nil)))))) rfl (Nat.le_of_ble_eq_true rfl) ?_
            refine JL_assign rfl ?_
            refine JL_done_up 43 [box _ _ [_, _, _, _, _, _], box _ _ [_, _, _, _, _, _], box _ _ [_, _, _, _, _, _], box _ _ [_, _, _, _, _, _]] [_, _, _, _, _, _, _, _, _, _, _, _, _, _, _, _] rfl rfl (by simp only [upd_pend, upd_base, flatP, updV_zero, updV_succ]; rfl) rfl rfl ?_
            refine JC_ret ?_
            refine JE_then_ret ?_
            have hv : v2 q1 q2 q3 q4 = true := by unfold v2; rw [h8, h12]; rfl
            have hm : mtV q1 q2 q3 q4 = false := by rw [mtV, hv, hlo, hhi, h39]; rfl
            refine JE_nilView ?_
            refine JE_ret (vs := [_, _]) [vCells none (u32s []), vCells none (u32s []), vCells none (u32s []), vCells none (u32s [])] Tryd.results24 ⟨RV.cell (vs := [_, _, _, _, _, _]) 2 ty28 rfl rfl ⟨rfl, rfl, rfl, rfl, rfl, rfl, trivial⟩, rfl, rfl⟩ ?_ ?_
            · exact ⟨none, 0, none, 0, none, 0, none, 0, by rw [hm]; rfl, by rw [hm]; rfl⟩
            · exact (all_cons (by repeat (first | with_reducible exact mm0 | refine mmS ?_)) (all_cons (by repeat (first | with_reducible exact mm0 | refine mmS ?_)) (all_cons (by repeat (first | with_reducible exact mm0 | refine mmS ?_)) (all_cons (by repeat (first | with_reducible exact mm0 | refine mmS ?_)) all_nil))))
        · have hhi : mhi q2 q4 = q2 := if_neg (fun h => h33 (cmpQ_neg.2 h))
          refine JL_done_up 43 [box _ _ [_, _, _, _, _, _], box _ _ [_, _, _, _, _, _], box _ _ [_, _, _, _, _, _], box _ _ [_, _, _, _, _, _]] [_, _, _, _, _, _, _, _, _, _, _, _, _, _] rfl rfl (by simp only [upd_pend, upd_base, flatP, updV_zero, updV_succ]; rfl) rfl rfl ?_
          refine JC_false rfl ?_
          refine JC_skip ?_
          refine JE_then ?_
          refine JC_seq ?_
          refine JC_seq ?_
          refine JC_region ?_
          refine JL_loadA (vs := [_, _, _, _, _, _]) 3 ty28 rfl rfl ⟨rfl, rfl, rfl, rfl, rfl, rfl, trivial⟩ ?_
          refine JL_callF' (Asks.cons (holds_of_mem (by repeat (first | with_reducible exact mm0 | refine mmS ?_))) (Asks.cons (holds_of_mem (by repeat (first | with_reducible exact mm0 | refine mmS ?_))) (Asks.cons (holds_of_mem (by repeat (first | with_reducible exact mm0 | refine mmS ?_))) (Asks.cons (holds_of_mem (by repeat (first | with_reducible exact mm0 | refine mmS ?_))) Asks.nil)))) (ivalid_con (FIn.some (by assumption)) (FIn.some (by assumption))) rfl ca15 ⟨rfl, rfl⟩ ?_
          rintro _ _ ⟨rfl, rfl⟩
          refine JL_splitV (fun h39 => ?_) (fun h39 => ?_)
          · refine JL_not rfl ?_
            rw [Bool.not_true]
            refine JL_done_up 43 [box _ _ [_, _, _, _, _, _], box _ _ [_, _, _, _, _, _], box _ _ [_, _, _, _, _, _], box _ _ [_, _, _, _, _, _]] [_, _, _, _, _, _, _, _, _, _, _, _, _, _] rfl rfl (by simp only [upd_pend, upd_base, flatP, updV_zero, updV_succ]; rfl) rfl rfl ?_
            refine JC_false rfl ?_
            refine JC_skip ?_
            refine JE_then ?_
            refine JC_seq ?_
            refine JC_region ?_
            refine JL_loadA (vs := [_, _, _, _, _, _]) 3 ty28 rfl rfl ⟨rfl, rfl, rfl, rfl, rfl, rfl, trivial⟩ ?_
            refine JL_store (vs := [_, _, _, _, _, _]) 2 ty28 rfl rfl rfl (AllOne.cons rfl (AllOne.cons rfl (AllOne.cons rfl (AllOne.cons rfl (AllOne.cons rfl (AllOne.cons rfl AllOne.nil)))))) rfl (Nat.le_of_ble_eq_true rfl) ?_
            refine JL_assign rfl ?_
            refine JL_done_up 43 [box _ _ [_, _, _, _, _, _], box _ _ [_, _, _, _, _, _], box _ _ [_, _, _, _, _, _], box _ _ [_, _, _, _, _, _]] [_, _, _, _, _, _, _, _, _, _, _, _, _, _] rfl rfl (by simp only [upd_pend, upd_base, flatP, updV_zero, updV_succ]; rfl) rfl rfl ?_
            refine JC_ret ?_
            have hv : v2 q1 q2 q3 q4 = true := by unfold v2; rw [h8, h12]; rfl
            have hm : mtV q1 q2 q3 q4 = true := by rw [mtV, hv, hlo, hhi, h39]; rfl
            refine JE_ret (vs := [_, _]) [vCells adl (u32s (fnum (some (q3)))), vCells bel (u32s (fden (some (q3)))), vCells adh (u32s (fnum (some (q2)))), vCells beh (u32s (fden (some (q2))))] Tryd.results24 ⟨RV.cell (vs := [_, _, _, _, _, _]) 2 ty28 rfl rfl ⟨rfl, rfl, rfl, rfl, rfl, rfl, trivial⟩, rfl, rfl⟩ ?_ ?_
            · rw [hm, hlo, hhi]; exact ⟨adl, cpl, bel, cel, adh, cph, beh, ceh, rfl, rfl⟩
            · exact (all_cons (by repeat (first | with_reducible exact mm0 | refine mmS ?_)) (all_cons (by repeat (first | with_reducible exact mm0 | refine mmS ?_)) (all_cons (by repeat (first | with_reducible exact mm0 | refine mmS ?_)) (all_cons (by repeat (first | with_reducible exact mm0 | refine mmS ?_)) all_nil))))
          · refine JL_not rfl ?_
            rw [Bool.not_false]
            refine JL_done_up 43 [box _ _ [_, _, _, _, _, _], box _ _ [_, _, _, _, _, _], box _ _ [_, _, _, _, _, _], box _ _ [_, _, _, _, _, _]] [_, _, _, _, _, _, _, _, _, _, _, _, _, _] rfl rfl (by simp only [upd_pend, upd_base, flatP, updV_zero, updV_succ]; rfl) rfl rfl ?_
            refine JC_true rfl ?_
            refine JC_seq ?_
            refine JC_region ?_
            refine JL_build (cs := [_, _, _, _, _, _]) [] st28 rfl rfl ?_
            refine JL_store (vs := [_, _, _, _, _, _]) 2 ty28 rfl rfl rfl (AllOne.cons rfl (AllOne.cons rfl (AllOne.cons rfl (AllOne.cons rfl (AllOne.cons rfl (AllOne.cons rfl AllOne.nil)))))) rfl (Nat.le_of_ble_eq_true rfl) ?_
            refine JL_assign rfl ?_
            refine JL_done_up 43 [box _ _ [_, _, _, _, _, _], box _ _ [_, _, _, _, _, _], box _ _ [_, _, _, _, _, _], box _ _ [_, _, _, _, _, _]] [_, _, _, _, _, _, _, _, _, _, _, _, _, _] rfl rfl (by simp only [upd_pend, upd_base, flatP, updV_zero, updV_succ]; rfl) rfl rfl ?_
            refine JC_ret ?_
            refine JE_then_ret ?_
            have hv : v2 q1 q2 q3 q4 = true := by unfold v2; rw [h8, h12]; rfl
            have hm : mtV q1 q2 q3 q4 = false := by rw [mtV, hv, hlo, hhi, h39]; rfl
            refine JE_nilView ?_
            refine JE_ret (vs := [_, _]) [vCells none (u32s []), vCells none (u32s []), vCells none (u32s []), vCells none (u32s [])] Tryd.results24 ⟨RV.cell (vs := [_, _, _, _, _, _]) 2 ty28 rfl rfl ⟨rfl, rfl, rfl, rfl, rfl, rfl, trivial⟩, rfl, rfl⟩ ?_ ?_
            · exact ⟨none, 0, none, 0, none, 0, none, 0, by rw [hm]; rfl, by rw [hm]; rfl⟩
            · exact (all_cons (by repeat (first | with_reducible exact mm0 | refine mmS ?_)) (all_cons (by repeat (first | with_reducible exact mm0 | refine mmS ?_)) (all_cons (by repeat (first | with_reducible exact mm0 | refine mmS ?_)) (all_cons (by repeat (first | with_reducible exact mm0 | refine mmS ?_)) all_nil))))
      · have hlo : mlo q1 q3 = q1 := if_neg (fun h => h23 (cmpQ_pos.2 h))
        refine JL_done_up 43 [box _ _ [_, _, _, _, _, _], box _ _ [_, _, _, _, _, _], box _ _ [_, _, _, _, _, _], box _ _ [_, _, _, _, _, _]] [_, _, _, _, _, _, _, _, _, _, _, _] rfl rfl (by simp only [upd_pend, upd_base, flatP, updV_zero, updV_succ]; rfl) rfl rfl ?_
        refine JC_false rfl ?_
        refine JC_skip ?_
        refine JE_then ?_
        refine JC_seq ?_
        refine JC_seq ?_
        refine JC_region ?_
        refine JL_fieldAddr fo28_1 rfl ?_
        refine JL_loadA (vs := [_, _, _]) 1 ty26 rfl rfl ⟨rfl, rfl, rfl, trivial⟩ ?_
        refine JL_fieldAddr fo28_1 rfl ?_
        refine JL_loadA (vs := [_, _, _]) 3 ty26 rfl rfl ⟨rfl, rfl, rfl, trivial⟩ ?_
        refine JL_callF' (Asks.cons (holds_of_mem (by repeat (first | with_reducible exact mm0 | refine mmS ?_))) (Asks.cons (holds_of_mem (by repeat (first | with_reducible exact mm0 | refine mmS ?_))) (Asks.cons (holds_of_mem (by repeat (first | with_reducible exact mm0 | refine mmS ?_))) (Asks.cons (holds_of_mem (by repeat (first | with_reducible exact mm0 | refine mmS ?_))) Asks.nil)))) (fcmpq_con (g4.mono (by omega)) (FIn.some (by assumption))) rfl ca45 ⟨rfl, rfl, rfl⟩ ?_
        rintro _ _ ⟨rfl, rfl⟩
        refine JL_lss rfl rfl ?_
        refine JL_split (fun h33 => ?_) (fun h33 => ?_)
        · have hhi : mhi q2 q4 = q4 := if_pos (cmpQ_neg.1 h33)
          refine JL_done_up 43 [box _ _ [_, _, _, _, _, _], box _ _ [_, _, _, _, _, _], box _ _ [_, _, _, _, _, _], box _ _ [_, _, _, _, _, _]] [_, _, _, _, _, _, _, _, _, _, _, _] rfl rfl (by simp only [upd_pend, upd_base, flatP, updV_zero, updV_succ]; rfl) rfl rfl ?_
          refine JC_true rfl ?_
          refine JC_region ?_
          refine JL_fieldAddr fo28_1 rfl ?_
          refine JL_loadA (vs := [_, _, _]) 1 ty26 rfl rfl ⟨rfl, rfl, rfl, trivial⟩ ?_
          refine JL_callF' (Asks.cons (holds_of_mem (by repeat (first | with_reducible exact mm0 | refine mmS ?_))) (Asks.cons (holds_of_mem (by repeat (first | with_reducible exact mm0 | refine mmS ?_))) Asks.nil)) (fnorm_con (g4.mono (by omega))) rfl ca54 ⟨rfl, rfl⟩ ?_
          rintro _ _ ⟨adh, cph, beh, ceh, rfl, rfl⟩
          refine JL_fieldAddr fo28_1 rfl ?_
          refine JL_store (vs := [_, _, _]) 3 ty26 rfl rfl rfl (AllOne.cons rfl (AllOne.cons rfl (AllOne.cons rfl AllOne.nil))) rfl (Nat.le_of_ble_eq_true rfl) ?_
          refine JL_done_up 43 [box _ _ [_, _, _, _, _, _], box _ _ [_, _, _, _, _, _], box _ _ [_, _, _, _, _, _], box _ _ [_, _, _, _, _, _]] [_, _, _, _, _, _, _, _, _, _, _, _, _, _] rfl rfl (by simp only [upd_pend, upd_base, flatP, updV_zero, updV_succ]; rfl) rfl rfl ?_
          refine JC_seq ?_
          refine JC_seq ?_
          refine JC_region ?_
          refine JL_loadA (vs := [_, _, _, _, _, _]) 3 ty28 rfl rfl ⟨rfl, rfl, rfl, rfl, rfl, rfl, trivial⟩ ?_
          refine JL_callF' (Asks.cons (holds_of_mem (by repeat (first | with_reducible exact mm0 | refine mmS ?_))) (Asks.cons (holds_of_mem (by repeat (first | with_reducible exact mm0 | refine mmS ?_))) (Asks.cons (holds_of_mem (by repeat (first | with_reducible exact mm0 | refine mmS ?_))) (Asks.cons (holds_of_mem (by repeat (first | with_reducible exact mm0 | refine mmS ?_))) Asks.nil)))) (ivalid_con (FIn.some (by assumption)) (FIn.some (by assumption))) rfl ca15 ⟨rfl, rfl⟩ ?_
          rintro _ _ ⟨rfl, rfl⟩
          refine JL_splitV (fun h39 => ?_) (fun h39 => ?_)
          · refine JL_not rfl ?_
            rw [Bool.not_true]
            refine JL_done_up 43 [box _ _ [_, _, _, _, _, _], box _ _ [_, _, _, _, _, _], box _ _ [_, _, _, _, _, _], box _ _ [_, _, _, _, _, _]] [_, _, _, _, _, _, _, _, _, _, _, _, _, _] rfl rfl (by simp only [upd_pend, upd_base, flatP, updV_zero, updV_succ]; rfl) rfl rfl ?_
            refine JC_false rfl ?_
            refine JC_skip ?_
            refine JE_then ?_
            refine JC_seq ?_
            refine JC_region ?_
            refine JL_loadA (vs := [_, _, _, _, _, _]) 3 ty28 rfl rfl ⟨rfl, rfl, rfl, rfl, rfl, rfl, trivial⟩ ?_
            refine JL_store (vs := [_, _, _, _, _, _]) 2 ty28 rfl rfl rfl (AllOne.cons rfl (AllOne.cons rfl (AllOne.cons rfl (AllOne.cons rfl (AllOne.cons rfl (AllOne.cons rfl AllOne.nil)))))) rfl (Nat.le_of_ble_eq_true rfl) ?_
            refine JL_assign rfl ?_
            refine JL_done_up 43 [box _ _ [_, _, _, _, _, _], box _ _ [_, _, _, _, _, _], box _ _ [_, _, _, _, _, _], box _ _ [_, _, _, _, _, _]] [_, _, _, _, _, _, _, _, _, _, _, _, _, _] rfl rfl (by simp only [upd_pend, upd_base, flatP, updV_zero, updV_succ]; rfl) rfl rfl ?_
            refine JC_ret ?_
            have hv : v2 q1 q2 q3 q4 = true := by unfold v2; rw [h8, h12]; rfl
            have hm : mtV q1 q2 q3 q4 = true := by rw [mtV, hv, hlo, hhi, h39]; rfl
            refine JE_ret (vs := [_, _]) [vCells adl (u32s (fnum (some (q1)))), vCells bel (u32s (fden (some (q1)))), vCells adh (u32s (fnum (some (q4)))), vCells beh (u32s (fden (some (q4))))] Tryd.results24 ⟨RV.cell (vs := [_, _, _, _, _, _]) 2 ty28 rfl rfl ⟨rfl, rfl, rfl, rfl, rfl, rfl, trivial⟩, rfl, rfl⟩ ?_ ?_
            · rw [hm, hlo, hhi]; exact ⟨adl, cpl, bel, cel, adh, cph, beh, ceh, rfl, rfl⟩
            · exact (all_cons (by repeat (first | with_reducible exact mm0 | refine mmS ?_)) (all_cons (by repeat (first | with_reducible exact mm0 | refine mmS ?_)) (all_cons (by repeat (first | with_reducible exact mm0 | refine mmS ?_)) (all_cons (by repeat (first | with_reducible exact mm0 | refine mmS ?_)) all_nil))))
          · refine JL_not rfl ?_
            rw [Bool.not_false]
            refine JL_done_up 43 [box _ _ [_, _, _, _, _, _], box _ _ [_, _, _, _, _, _], box _ _ [_, _, _, _, _, _], box _ _ [_, _, _, _, _, _]] [_, _, _, _, _, _, _, _, _, _, _, _, _, _] rfl rfl (by simp only [upd_pend, upd_base, flatP, updV_zero, updV_succ]; rfl) rfl rfl ?_
            refine JC_true rfl ?_
            refine JC_seq ?_
            refine JC_region ?_
            refine JL_build (cs := [_, _, _, _, _, _]) [] st28 rfl rfl ?_
            refine JL_store (vs := [_, _, _, _, _, _]) 2 ty28 rfl rfl rfl (AllOne.cons rfl (AllOne.cons rfl (AllOne.cons rfl (AllOne.cons rfl (AllOne.cons rfl (AllOne.cons rfl AllOne.nil)))))) rfl (Nat.le_of_ble_eq_true rfl) ?_
            refine JL_assign rfl ?_
            refine JL_done_up 43 [box _ _ [_, _, _, _, _, _], box _ _ [_, _, _, _, _, _], box _ _ [_, _, _, _, _, _], box _ _ [_, _, _, _, _, _]] [_, _, _, _, _, _, _, _, _, _, _, _, _, _] rfl rfl (by simp only [upd_pend, upd_base, flatP, updV_zero, updV_succ]; rfl) rfl rfl ?_
            refine JC_ret ?_
            refine JE_then_ret ?_
            have hv : v2 q1 q2 q3 q4 = true := by unfold v2; rw [h8, h12]; rfl
            have hm : mtV q1 q2 q3 q4 = false := by rw [mtV, hv, hlo, hhi, h39]; rfl
            refine JE_nilView ?_
            refine JE_ret (vs := [_, _]) [vCells none (u32s []), vCells none (u32s []), vCells none (u32s []), vCells none (u32s [])] Tryd.results24 ⟨RV.cell (vs := [_, _, _, _, _, _]) 2 ty28 rfl rfl ⟨rfl, rfl, rfl, rfl, rfl, rfl, trivial⟩, rfl, rfl⟩ ?_ ?_
            · exact ⟨none, 0, none, 0, none, 0, none, 0, by rw [hm]; rfl, by rw [hm]; rfl⟩
            · exact (all_cons (by repeat (first | with_reducible exact mm0 | refine mmS ?_)) (all_cons (by repeat (first | with_reducible exact mm0 | refine mmS ?_)) (all_cons (by repeat (first | with_reducible exact mm0 | refine mmS ?_)) (all_cons (by repeat (first | with_reducible exact mm0 | refine mmS ?_)) all_nil))))
        · have hhi : mhi q2 q4 = q2 := if_neg (fun h => h33 (cmpQ_neg.2 h))
          refine JL_done_up 43 [box _ _ [_, _, _, _, _, _], box _ _ [_, _, _, _, _, _], box _ _ [_, _, _, _, _, _], box _ _ [_, _, _, _, _, _]] [_, _, _, _, _, _, _, _, _, _, _, _] rfl rfl (by simp only [upd_pend, upd_base, flatP, updV_zero, updV_succ]; rfl) rfl rfl ?_
          refine JC_false rfl ?_
          refine JC_skip ?_
          refine JE_then ?_
          refine JC_seq ?_
          refine JC_seq ?_
          refine JC_region ?_
          refine JL_loadA (vs := [_, _, _, _, _, _]) 3 ty28 rfl rfl ⟨rfl, rfl, rfl, rfl, rfl, rfl, trivial⟩ ?_
          refine JL_callF' (Asks.cons (holds_of_mem (by repeat (first | with_reducible exact mm0 | refine mmS ?_))) (Asks.cons (holds_of_mem (by repeat (first | with_reducible exact mm0 | refine mmS ?_))) (Asks.cons (holds_of_mem (by repeat (first | with_reducible exact mm0 | refine mmS ?_))) (Asks.cons (holds_of_mem (by repeat (first | with_reducible exact mm0 | refine mmS ?_))) Asks.nil)))) (ivalid_con (FIn.some (by assumption)) (FIn.some (by assumption))) rfl ca15 ⟨rfl, rfl⟩ ?_
          rintro _ _ ⟨rfl, rfl⟩
          refine JL_splitV (fun h39 => ?_) (fun h39 => ?_)
          · refine JL_not rfl ?_
            rw [Bool.not_true]
            refine JL_done_up 43 [box _ _ [_, _, _, _, _, _], box _ _ [_, _, _, _, _, _], box _ _ [_, _, _, _, _, _], box _ _ [_, _, _, _, _, _]] [_, _, _, _, _, _, _, _, _, _, _, _] rfl rfl (by simp only [upd_pend, upd_base, flatP, updV_zero, updV_succ]; rfl) rfl rfl ?_
            refine JC_false rfl ?_
            refine JC_skip ?_
            refine JE_then ?_
            refine JC_seq ?_
            refine JC_region ?_
            refine JL_loadA (vs := [_, _, _, _, _, _]) 3 ty28 rfl rfl ⟨rfl, rfl, rfl, rfl, rfl, rfl, trivial⟩ ?_
            refine JL_store (vs := [_, _, _, _, _, _]) 2 ty28 rfl rfl rfl (AllOne.cons rfl (AllOne.cons rfl (AllOne.cons rfl (AllOne.cons rfl (AllOne.cons rfl (AllOne.cons rfl AllOne.nil)))))) rfl (Nat.le_of_ble_eq_true rfl) ?_
            refine JL_assign rfl ?_
            refine JL_done_up 43 [box _ _ [_, _, _, _, _, _], box _ _ [_, _, _, _, _, _], box _ _ [_, _, _, _, _, _], box _ _ [_, _, _, _, _, _]] [_, _, _, _, _, _, _, _, _, _, _, _] rfl rfl (by simp only [upd_pend, upd_base, flatP, updV_zero, updV_succ]; rfl) rfl rfl ?_
            refine JC_ret ?_
            have hv : v2 q1 q2 q3 q4 = true := by unfold v2; rw [h8, h12]; rfl
            have hm : mtV q1 q2 q3 q4 = true := by rw [mtV, hv, hlo, hhi, h39]; rfl
            refine JE_ret (vs := [_, _]) [vCells adl (u32s (fnum (some (q1)))), vCells bel (u32s (fden (some (q1)))), vCells adh (u32s (fnum (some (q2)))), vCells beh (u32s (fden (some (q2))))] Tryd.results24 ⟨RV.cell (vs := [_, _, _, _, _, _]) 2 ty28 rfl rfl ⟨rfl, rfl, rfl, rfl, rfl, rfl, trivial⟩, rfl, rfl⟩ ?_ ?_
            · rw [hm, hlo, hhi]; exact ⟨adl, cpl, bel, cel, adh, cph, beh, ceh, rfl, rfl⟩
            · exact (all_cons (by repeat (first | with_reducible exact mm0 | refine mmS ?_)) (all_cons (by repeat (first | with_reducible exact mm0 | refine mmS ?_)) (all_cons (by repeat (first | with_reducible exact mm0 | refine mmS ?_)) (all_cons (by repeat (first | with_reducible exact mm0 | refine mmS ?_)) all_nil))))
          · refine JL_not rfl ?_
            rw [Bool.not_false]
            refine JL_done_up 43 [box _ _ [_, _, _, _, _, _], box _ _ [_, _, _, _, _, _], box _ _ [_, _, _, _, _, _], box _ _ [_, _, _, _, _, _]] [_, _, _, _, _, _, _, _, _, _, _, _] rfl rfl (by simp only [upd_pend, upd_base, flatP, updV_zero, updV_succ]; rfl) rfl rfl ?_
            refine JC_true rfl ?_
            refine JC_seq ?_
            refine JC_region ?_
            refine JL_build (cs := [_, _, _, _, _, _]) [] st28 rfl rfl ?_
            refine JL_store (vs := [_, _, _, _, _, _]) 2 ty28 rfl rfl rfl (AllOne.cons rfl (AllOne.cons rfl (AllOne.cons rfl (AllOne.cons rfl (AllOne.cons rfl (AllOne.cons rfl AllOne.nil)))))) rfl (Nat.le_of_ble_eq_true rfl) ?_
            refine JL_assign rfl ?_
            refine JL_done_up 43 [box _ _ [_, _, _, _, _, _], box _ _ [_, _, _, _, _, _], box _ _ [_, _, _, _, _, _], box _ _ [_, _, _, _, _, _]] [_, _, _, _, _, _, _, _, _, _, _, _] rfl rfl (by simp only [upd_pend, upd_base, flatP, updV_zero, updV_succ]; rfl) rfl rfl ?_
            refine JC_ret ?_
            refine JE_then_ret ?_
            have hv : v2 q1 q2 q3 q4 = true := by unfold v2; rw [h8, h12]; rfl
            have hm : mtV q1 q2 q3 q4 = false := by rw [mtV, hv, hlo, hhi, h39]; rfl
            refine JE_nilView ?_
            refine JE_ret (vs := [_, _]) [vCells none (u32s []), vCells none (u32s []), vCells none (u32s []), vCells none (u32s [])] Tryd.results24 ⟨RV.cell (vs := [_, _, _, _, _, _]) 2 ty28 rfl rfl ⟨rfl, rfl, rfl, rfl, rfl, rfl, trivial⟩, rfl, rfl⟩ ?_ ?_
            · exact ⟨none, 0, none, 0, none, 0, none, 0, by rw [hm]; rfl, by rw [hm]; rfl⟩
            · exact (all_cons (by repeat (first | with_reducible exact mm0 | refine mmS ?_)) (all_cons (by repeat (first | with_reducible exact mm0 | refine mmS ?_)) (all_cons (by repeat (first | with_reducible exact mm0 | refine mmS ?_)) (all_cons (by repeat (first | with_reducible exact mm0 | refine mmS ?_)) all_nil))))
    · refine JL_guard_yes rfl rfl ?_
      refine JL_not rfl ?_
      rw [Bool.not_false]
      refine JL_pick_f rfl rfl ?_
      refine JL_done_up 43 [box _ _ [_, _, _, _, _, _], box _ _ [_, _, _, _, _, _], box _ _ [_, _, _, _, _, _]] [_, _, _, _, _, _, _, _] rfl rfl (by simp only [upd_pend, upd_base, flatP, updV_zero, updV_succ]; rfl) rfl rfl ?_
      refine JC_true rfl ?_
      refine JC_seq ?_
      refine JC_region ?_
      refine JL_build (cs := [_, _, _, _, _, _]) [] st28 rfl rfl ?_
      refine JL_store (vs := [_, _, _, _, _, _]) 2 ty28 rfl rfl rfl (AllOne.cons rfl (AllOne.cons rfl (AllOne.cons rfl (AllOne.cons rfl (AllOne.cons rfl (AllOne.cons rfl AllOne.nil)))))) rfl (Nat.le_of_ble_eq_true rfl) ?_
      refine JL_assign rfl ?_
      refine JL_done_up 43 [box _ _ [_, _, _, _, _, _], box _ _ [_, _, _, _, _, _], box _ _ [_, _, _, _, _, _]] [_, _, _, _, _, _, _, _] rfl rfl (by simp only [upd_pend, upd_base, flatP, updV_zero, updV_succ]; rfl) rfl rfl ?_
      refine JC_ret ?_
      refine JE_then_ret ?_
      have hv : v2 q1 q2 q3 q4 = false := by unfold v2; first | (rw [h8]; rfl) | (rw [h12, Bool.and_false])
      have hm : mtV q1 q2 q3 q4 = false := by rw [mtV, hv]; rfl
      refine JE_nilView ?_
      refine JE_ret (vs := [_, _]) [vCells none (u32s []), vCells none (u32s []), vCells none (u32s []), vCells none (u32s [])] Tryd.results24 ⟨RV.cell (vs := [_, _, _, _, _, _]) 2 ty28 rfl rfl ⟨rfl, rfl, rfl, rfl, rfl, rfl, trivial⟩, rfl, rfl⟩ ?_ ?_
      · exact ⟨none, 0, none, 0, none, 0, none, 0, by rw [hm]; rfl, by rw [hm]; rfl⟩
      · exact (all_cons (by repeat (first | with_reducible exact mm0 | refine mmS ?_)) (all_cons (by repeat (first | with_reducible exact mm0 | refine mmS ?_)) (all_cons (by repeat (first | with_reducible exact mm0 | refine mmS ?_)) (all_cons (by repeat (first | with_reducible exact mm0 | refine mmS ?_)) all_nil))))
  · refine JL_not rfl ?_
    rw [Bool.not_false]
    refine JL_move rfl ?_
    refine JL_guard_no rfl rfl ?_
    refine JL_guard_no rfl rfl ?_
    refine JL_guard_no rfl rfl ?_
    refine JL_pick_t rfl rfl ?_
    refine JL_done_up 43 [box _ _ [_, _, _, _, _, _], box _ _ [_, _, _, _, _, _], box _ _ [_, _, _, _, _, _]] [_, _, _, _, _, _, _, _] rfl rfl (by simp only [upd_pend, upd_base, flatP, updV_zero, updV_succ]; rfl) rfl rfl ?_
    refine JC_true rfl ?_
    refine JC_seq ?_
    refine JC_region ?_
    refine JL_build (cs := [_, _, _, _, _, _]) [] st28 rfl rfl ?_
    refine JL_store (vs := [_, _, _, _, _, _]) 2 ty28 rfl rfl rfl (AllOne.cons rfl (AllOne.cons rfl (AllOne.cons rfl (AllOne.cons rfl (AllOne.cons rfl (AllOne.cons rfl AllOne.nil)))))) rfl (Nat.le_of_ble_eq_true rfl) ?_
    refine JL_assign rfl ?_
    refine JL_done_up 43 [box _ _ [_, _, _, _, _, _], box _ _ [_, _, _, _, _, _], box _ _ [_, _, _, _, _, _]] [_, _, _, _, _, _, _, _] rfl rfl (by simp only [upd_pend, upd_base, flatP, updV_zero, updV_succ]; rfl) rfl rfl ?_
    refine JC_ret ?_
    refine JE_then_ret ?_
    have hv : v2 q1 q2 q3 q4 = false := by unfold v2; first | (rw [h8]; rfl) | (rw [h12, Bool.and_false])
    have hm : mtV q1 q2 q3 q4 = false := by rw [mtV, hv]; rfl
    refine JE_nilView ?_
    refine JE_ret (vs := [_, _]) [vCells none (u32s []), vCells none (u32s []), vCells none (u32s []), vCells none (u32s [])] Tryd.results24 ⟨RV.cell (vs := [_, _, _, _, _, _]) 2 ty28 rfl rfl ⟨rfl, rfl, rfl, rfl, rfl, rfl, trivial⟩, rfl, rfl⟩ ?_ ?_
    · exact ⟨none, 0, none, 0, none, 0, none, 0, by rw [hm]; rfl, by rw [hm]; rfl⟩
    · exact (all_cons (by repeat (first | with_reducible exact mm0 | refine mmS ?_)) (all_cons (by repeat (first | with_reducible exact mm0 | refine mmS ?_)) (all_cons (by repeat (first | with_reducible exact mm0 | refine mmS ?_)) (all_cons (by repeat (first | with_reducible exact mm0 | refine mmS ?_)) all_nil))))

theorem ibullion_con {s1 : Bool} {ad1 : Option Addr} {n1 c1 : Nat} {L1 : List Nat} {be1 : Option Addr} {m1 e1 : Nat} {M1 : List Nat} {q1 : Rat} (g1 : FIn s1 n1 L1 m1 M1 q1 10000) {s2 : Bool} {ad2 : Option Addr} {n2 c2 : Nat} {L2 : List Nat} {be2 : Option Addr} {m2 e2 : Nat} {M2 : List Nat} {q2 : Rat} (g2 : FIn s2 n2 L2 m2 M2 q2 10000) {s3 : Bool} {ad3 : Option Addr} {n3 c3 : Nat} {L3 : List Nat} {be3 : Option Addr} {m3 e3 : Nat} {M3 : List Nat} {q3 : Rat} (g3 : FIn s3 n3 L3 m3 M3 q3 10000) {s4 : Bool} {ad4 : Option Addr} {n4 c4 : Nat} {L4 : List Nat} {be4 : Option Addr} {m4 e4 : Nat} {M4 : List Nat} {q4 : Rat} (g4 : FIn s4 n4 L4 m4 M4 q4 10000) {s5 : Bool} {ad5 : Option Addr} {n5 c5 : Nat} {L5 : List Nat} {be5 : Option Addr} {m5 e5 : Nat} {M5 : List Nat} {q5 : Rat} (g5 : FIn s5 n5 L5 m5 M5 q5 10000) {s6 : Bool} {ad6 : Option Addr} {n6 c6 : Nat} {L6 : List Nat} {be6 : Option Addr} {m6 e6 : Nat} {M6 : List Nat} {q6 : Rat} (g6 : FIn s6 n6 L6 m6 M6 q6 10000) :
    ConF Tryd.prog 20 [.agg #[.bool s1, .slice ad1 n1 c1, .slice be1 m1 e1, .bool s2, .slice ad2 n2 c2, .slice be2 m2 e2], .agg #[.bool s3, .slice ad3 n3 c3, .slice be3 m3 e3, .bool s4, .slice ad4 n4 c4, .slice be4 m4 e4], .agg #[.bool s5, .slice ad5 n5 c5, .slice be5 m5 e5, .bool s6, .slice ad6 n6 c6, .slice be6 m6 e6]] [vCells ad1 (u32s L1), vCells be1 (u32s M1), vCells ad2 (u32s L2), vCells be2 (u32s M2), vCells ad3 (u32s L3), vCells be3 (u32s M3), vCells ad4 (u32s L4), vCells be4 (u32s M4), vCells ad5 (u32s L5), vCells be5 (u32s M5), vCells ad6 (u32s L6), vCells be6 (u32s M6)]
      (SOE (blO q1 q2 q3 q4 q5 q6).1 (blO q1 q2 q3 q4 q5 q6).2.1 (.int .i64 (blO q1 q2 q3 q4 q5 q6).2.2)) := by
  have hb1 := g1.qs
  have hb2 := g2.qs
  have hb3 := g3.qs
  have hb4 := g4.qs
  have hb5 := g5.qs
  have hb6 := g6.qs
  have hqO := qs_one
  have hqT := qs_thou
  have hqA := qs_tm (b := v2 q1 q2 q3 q4) (c := 20002) hb1 hb3 (by decide)
  have hqB := qs_tm (b := v2 q1 q2 q3 q4) (c := 20002) hb2 hb4 (by decide)
  have hqC := qs_tm (b := v2 (tm (v2 q1 q2 q3 q4) q1 q3) (tm (v2 q1 q2 q3 q4) q2 q4) q5 q6) (c := 30003) hqA hb5 (by decide)
  have hqD := qs_tm (b := v2 (tm (v2 q1 q2 q3 q4) q1 q3) (tm (v2 q1 q2 q3 q4) q2 q4) q5 q6) (c := 30003) hqB hb6 (by decide)
  refine ConF_of Tryd.func20 rfl 49 _ rfl rfl ?_
  intro w0
  refine JC_norm ⟨49, [], [_, _, _, _, _, _, _, _, _, _, _, _, _, _, _, _, _, _, _, _, _, _, _, _, _, _, _, _, _, _, _, _, _, _, _, _, _, _, _, _, _, _, _, _, _, _, _, _, _]⟩ [] [_, _, _, _, _, _, _, _, _, _, _, _] rfl rfl rfl ?_
  refine JC_seq ?_
  refine JC_region ?_
  refine JL_box rfl rfl (fun b3 => ?_)
  refine JL_box rfl rfl (fun b4 => ?_)
  refine JL_box rfl rfl (fun b5 => ?_)
  refine JL_alloc z28 (fun b6 => ?_)
  refine JL_assign rfl ?_
  refine JL_done_up 49 [box _ _ [_, _, _, _, _, _], box _ _ [_, _, _, _, _, _], box _ _ [_, _, _, _, _, _], box _ _ [_, _, _, _, _, _]] [_, _, _, _, _, _, _, _, _, _, _, _] rfl rfl (by simp only [upd_pend, upd_base, flatP, updV_zero, updV_succ]; rfl) rfl rfl ?_
  refine JC_seq ?_
  refine JC_seq ?_
  refine JC_region ?_
  refine JL_loadA (vs := [_, _, _, _, _, _]) 0 ty28 rfl rfl ⟨rfl, rfl, rfl, rfl, rfl, rfl, trivial⟩ ?_
  refine JL_callF' (Asks.cons (holds_of_mem (by repeat (first | with_reducible exact mm0 | refine mmS ?_))) (Asks.cons (holds_of_mem (by repeat (first | with_reducible exact mm0 | refine mmS ?_))) (Asks.cons (holds_of_mem (by repeat (first | with_reducible exact mm0 | refine mmS ?_))) (Asks.cons (holds_of_mem (by repeat (first | with_reducible exact mm0 | refine mmS ?_))) Asks.nil)))) (ivalid_con (g1.mono (by omega)) (g2.mono (by omega))) rfl ca15 ⟨rfl, rfl⟩ ?_
  rintro _ _ ⟨rfl, rfl⟩
  refine JL_splitV (fun h13 => ?_) (fun h13 => ?_)
  · refine JL_not rfl ?_
    rw [Bool.not_true]
    refine JL_move rfl ?_
    refine JL_guard_yes rfl rfl ?_
    refine JL_loadA (vs := [_, _, _, _, _, _]) 1 ty28 rfl rfl ⟨rfl, rfl, rfl, rfl, rfl, rfl, trivial⟩ ?_
    refine JL_guard_yes rfl rfl ?_
    refine JL_callF' (Asks.cons (holds_of_mem (by repeat (first | with_reducible exact mm0 | refine mmS ?_))) (Asks.cons (holds_of_mem (by repeat (first | with_reducible exact mm0 | refine mmS ?_))) (Asks.cons (holds_of_mem (by repeat (first | with_reducible exact mm0 | refine mmS ?_))) (Asks.cons (holds_of_mem (by repeat (first | with_reducible exact mm0 | refine mmS ?_))) Asks.nil)))) (ivalid_con (g3.mono (by omega)) (g4.mono (by omega))) rfl ca15 ⟨rfl, rfl⟩ ?_
    rintro _ _ ⟨rfl, rfl⟩
    refine JL_splitV (fun h17 => ?_) (fun h17 => ?_)
    · refine JL_guard_yes rfl rfl ?_
      refine JL_not rfl ?_
      rw [Bool.not_true]
      refine JL_pick_f rfl rfl ?_
      refine JL_move rfl ?_
      refine JL_guard_yes rfl rfl ?_
      refine JL_loadA (vs := [_, _, _, _, _, _]) 2 ty28 rfl rfl ⟨rfl, rfl, rfl, rfl, rfl, rfl, trivial⟩ ?_
      refine JL_guard_yes rfl rfl ?_
      refine JL_callF' (Asks.cons (holds_of_mem (by repeat (first | with_reducible exact mm0 | refine mmS ?_))) (Asks.cons (holds_of_mem (by repeat (first | with_reducible exact mm0 | refine mmS ?_))) (Asks.cons (holds_of_mem (by repeat (first | with_reducible exact mm0 | refine mmS ?_))) (Asks.cons (holds_of_mem (by repeat (first | with_reducible exact mm0 | refine mmS ?_))) Asks.nil)))) (ivalid_con (g5.mono (by omega)) (g6.mono (by omega))) rfl ca15 ⟨rfl, rfl⟩ ?_
      rintro _ _ ⟨rfl, rfl⟩
      refine JL_splitV (fun h22 => ?_) (fun h22 => ?_)
      · refine JL_guard_yes rfl rfl ?_
        refine JL_not rfl ?_
        rw [Bool.not_true]
        refine JL_pick_f rfl rfl ?_
        refine JL_done_up 49 [box _ _ [_, _, _, _, _, _], box _ _ [_, _, _, _, _, _], box _ _ [_, _, _, _, _, _], box _ _ [_, _, _, _, _, _]] [_, _, _, _, _, _, _, _, _, _, _, _] rfl rfl (by simp only [upd_pend, upd_base, flatP, updV_zero, updV_succ]; rfl) rfl rfl ?_
        refine JC_false rfl ?_
        refine JC_skip ?_
        refine JE_then ?_
        refine JC_seq ?_
        refine JC_seq ?_
        refine JC_drawT mixed 3 [spV 26 [] _, spV 27 [0] _, spC 28 [] _] ⟨OblS_V (fun vals ex ψ => (by
            refine JL_normQ ⟨49, [(26, _), (27, _), (28, _)], _⟩ (_ :: _ :: _ :: _ :: _ :: _ :: _ :: _ :: _ :: _ :: _ :: _ :: ψ) rfl rfl ?_
            refine JL_fieldAddr fo28_1 rfl ?_
            exact JL_nil (JE_stepV rfl ss0))), OblS_V (fun vals ex ψ => (by
            refine JL_normQ ⟨49, [(26, _), (27, _), (28, _)], _⟩ (_ :: _ :: _ :: _ :: _ :: _ :: _ :: _ :: _ :: _ :: _ :: _ :: ψ) rfl rfl ?_
            refine JL_loadA (vs := [_, _, _]) 2 ty26 rfl rfl ⟨rfl, rfl, rfl, trivial⟩ ?_
            exact JL_nil (JE_stepV rfl ss0))), OblS_C (fun vals ex ψ => (by
            refine JL_normQ ⟨49, [(26, _), (27, _), (28, _)], _⟩ (_ :: _ :: _ :: _ :: _ :: _ :: _ :: _ :: _ :: _ :: _ :: _ :: ψ) rfl rfl ?_
            refine JL_callF' Asks.nil (ione_con) rfl ca49 rfl ?_
            exact fun v φo hP => JL_nil (JE_stepC φo rfl hP (fun p hp => mapB_l hp) (fun p hp => mapB_r (ss0 p hp))))), trivial⟩ (by kernel_rfl) (fun vals bs => ?_)
        refine JL_normL [_, _] ⟨49, [(26, _), (27, _), (28, _)], _⟩ [box _ _ [_, _, _, _, _, _], box _ _ [_, _, _, _, _, _], box _ _ [_, _, _, _, _, _], box _ _ [_, _, _, _, _, _]] [_, _, _, _, _, _, _, _, _, _, _, _, _] rfl rfl rfl rfl ?_
        generalize vals (0 + 1 + 1) = x28
        refine JL_usePost mm0 (fun φo hP => ?_)
        obtain ⟨ad28, cp28, be28, ce28, rfl, rfl⟩ := hP
        refine JL_norm _ [box _ _ [_, _, _, _, _, _], box _ _ [_, _, _, _, _, _], box _ _ [_, _, _, _, _, _], box _ _ [_, _, _, _, _, _]] [_, _, _, _, _, _, _, _, _, _, _, _, _, _, _] rfl rfl rfl ?_
        refine JL_callF' (Asks.cons (holds_of_mem (by repeat (first | with_reducible exact mm0 | refine mmS ?_))) (Asks.cons (holds_of_mem (by repeat (first | with_reducible exact mm0 | refine mmS ?_))) (Asks.cons (holds_of_mem (by repeat (first | with_reducible exact mm0 | refine mmS ?_))) (Asks.cons (holds_of_mem (by repeat (first | with_reducible exact mm0 | refine mmS ?_))) Asks.nil)))) (fcmpq_con (g6.mono (by omega)) (FIn.some (q := oneQ) (hqO.mono (by decide)))) rfl ca45 ⟨rfl, rfl, rfl⟩ ?_
        rintro _ _ ⟨rfl, rfl⟩
        refine JL_gtr rfl rfl ?_
        refine JL_split (fun h30 => ?_) (fun h30 => ?_)
        · have hc : oneQ < q6 := cmpQ_pos.1 h30
          refine JL_done_up 49 [box _ _ [_, _, _, _, _, _], box _ _ [_, _, _, _, _, _], box _ _ [_, _, _, _, _, _], box _ _ [_, _, _, _, _, _]] [_, _, _, _, _, _, _, _, _, _, _, _, _, _, _] rfl rfl (by simp only [upd_pend, upd_base, flatP, updV_zero, updV_succ]; rfl) rfl rfl ?_
          refine JC_true rfl ?_
          refine JC_seq ?_
          refine JC_region ?_
          refine JL_build (cs := [_, _, _, _, _, _]) [] st28 rfl rfl ?_
          refine JL_store (vs := [_, _, _, _, _, _]) 3 ty28 rfl rfl rfl (AllOne.cons rfl (AllOne.cons rfl (AllOne.cons rfl (AllOne.cons rfl (AllOne.cons rfl (AllOne.cons rfl AllOne.nil)))))) rfl (Nat.le_of_ble_eq_true rfl) ?_
          refine JL_assign rfl ?_
          refine JL_done_up 49 [box _ _ [_, _, _, _, _, _], box _ _ [_, _, _, _, _, _], box _ _ [_, _, _, _, _, _], box _ _ [_, _, _, _, _, _]] [_, _, _, _, _, _, _, _, _, _, _, _, _, _, _] rfl rfl (by simp only [upd_pend, upd_base, flatP, updV_zero, updV_succ]; rfl) rfl rfl ?_
          refine JC_ret ?_
          refine JE_then_ret ?_
          have hv : (v2 q1 q2 q3 q4 && vld q5 q6) = true := by unfold v2; rw [h13, h17, h22]; rfl
          have he : blO q1 q2 q3 q4 q5 q6 = (none, none, 2) := by unfold blO; rw [hv, if_pos hc]; rfl
          refine JE_nilView ?_
          refine JE_ret (vs := [_, _]) [vCells none (u32s []), vCells none (u32s []), vCells none (u32s []), vCells none (u32s [])] Tryd.results20 ⟨RV.cell (vs := [_, _, _, _, _, _]) 3 ty28 rfl rfl ⟨rfl, rfl, rfl, rfl, rfl, rfl, trivial⟩, rfl, rfl⟩ ?_ ?_
          · exact ⟨none, 0, none, 0, none, 0, none, 0, by rw [he]; rfl, by rw [he]; rfl⟩
          · exact (all_cons (by repeat (first | with_reducible exact mm0 | refine mmS ?_)) (all_cons (by repeat (first | with_reducible exact mm0 | refine mmS ?_)) (all_cons (by repeat (first | with_reducible exact mm0 | refine mmS ?_)) (all_cons (by repeat (first | with_reducible exact mm0 | refine mmS ?_)) all_nil))))
        · have hc : ¬ oneQ < q6 := fun h => h30 (cmpQ_pos.2 h)
          refine JL_done_up 49 [box _ _ [_, _, _, _, _, _], box _ _ [_, _, _, _, _, _], box _ _ [_, _, _, _, _, _], box _ _ [_, _, _, _, _, _]] [_, _, _, _, _, _, _, _, _, _, _, _, _, _, _] rfl rfl (by simp only [upd_pend, upd_base, flatP, updV_zero, updV_succ]; rfl) rfl rfl ?_
          refine JC_false rfl ?_
          refine JC_skip ?_
          refine JE_then ?_
          refine JC_seq ?_
          refine JC_region ?_
          refine JL_loadA (vs := [_, _, _, _, _, _]) 0 ty28 rfl rfl ⟨rfl, rfl, rfl, rfl, rfl, rfl, trivial⟩ ?_
          refine JL_loadA (vs := [_, _, _, _, _, _]) 1 ty28 rfl rfl ⟨rfl, rfl, rfl, rfl, rfl, rfl, trivial⟩ ?_
          refine JL_callF' (Asks.cons (holds_of_mem (by repeat (first | with_reducible exact mm0 | refine mmS ?_))) (Asks.cons (holds_of_mem (by repeat (first | with_reducible exact mm0 | refine mmS ?_))) (Asks.cons (holds_of_mem (by repeat (first | with_reducible exact mm0 | refine mmS ?_))) (Asks.cons (holds_of_mem (by repeat (first | with_reducible exact mm0 | refine mmS ?_))) (Asks.cons (holds_of_mem (by repeat (first | with_reducible exact mm0 | refine mmS ?_))) (Asks.cons (holds_of_mem (by repeat (first | with_reducible exact mm0 | refine mmS ?_))) (Asks.cons (holds_of_mem (by repeat (first | with_reducible exact mm0 | refine mmS ?_))) (Asks.cons (holds_of_mem (by repeat (first | with_reducible exact mm0 | refine mmS ?_))) Asks.nil)))))))) (itimes_con (g1.mono (by omega)) (g2.mono (by omega)) (g3.mono (by omega)) (g4.mono (by omega))) rfl ca12 ⟨rfl, rfl, rfl⟩ ?_
          rintro _ _ ⟨ad35, cp35, be35, ce35, af35, cq35, bg35, cf35, rfl, rfl⟩
          refine JL_move rfl ?_
          refine JL_extract rfl rfl ?_
          refine JL_extract rfl rfl ?_
          refine JL_alloc z28 (fun b8 => ?_)
          refine JL_store (vs := [_, _, _, _, _, _]) 4 ty28 rfl rfl rfl (AllOne.cons rfl (AllOne.cons rfl (AllOne.cons rfl (AllOne.cons rfl (AllOne.cons rfl (AllOne.cons rfl AllOne.nil)))))) rfl (Nat.le_of_ble_eq_true rfl) ?_
          refine JL_assign rfl ?_
          refine JL_done_up 49 [box _ _ [_, _, _, _, _, _], box _ _ [_, _, _, _, _, _], box _ _ [_, _, _, _, _, _], box _ _ [_, _, _, _, _, _], box _ _ [_, _, _, _, _, _]] [_, _, _, _, _, _, _, _, _, _, _, _, _, _, _, _, _, _, _] rfl rfl (by simp only [upd_pend, upd_base, flatP, updV_zero, updV_succ]; rfl) rfl rfl ?_
          refine JC_seq ?_
          refine JC_region ?_
          refine JL_loadA (vs := [_, _, _, _, _, _]) 4 ty28 rfl rfl ⟨rfl, rfl, rfl, rfl, rfl, rfl, trivial⟩ ?_
          refine JL_loadA (vs := [_, _, _, _, _, _]) 2 ty28 rfl rfl ⟨rfl, rfl, rfl, rfl, rfl, rfl, trivial⟩ ?_
          refine JL_callF' (Asks.cons (holds_of_mem (by repeat (first | with_reducible exact mm0 | refine mmS ?_))) (Asks.cons (holds_of_mem (by repeat (first | with_reducible exact mm0 | refine mmS ?_))) (Asks.cons (holds_of_mem (by repeat (first | with_reducible exact mm0 | refine mmS ?_))) (Asks.cons (holds_of_mem (by repeat (first | with_reducible exact mm0 | refine mmS ?_))) (Asks.cons (holds_of_mem (by repeat (first | with_reducible exact mm0 | refine mmS ?_))) (Asks.cons (holds_of_mem (by repeat (first | with_reducible exact mm0 | refine mmS ?_))) (Asks.cons (holds_of_mem (by repeat (first | with_reducible exact mm0 | refine mmS ?_))) (Asks.cons (holds_of_mem (by repeat (first | with_reducible exact mm0 | refine mmS ?_))) Asks.nil)))))))) (itimes_con (FIn.of (o := onv (v2 q1 q2 q3 q4) (q1 * q3)) (hqA.mono (by decide))) (FIn.of (o := onv (v2 q1 q2 q3 q4) (q2 * q4)) (hqB.mono (by decide))) (g5.mono (by omega)) (g6.mono (by omega))) rfl ca12 ⟨rfl, rfl, rfl⟩ ?_
          rintro _ _ ⟨ad41, cp41, be41, ce41, af41, cq41, bg41, cf41, rfl, rfl⟩
          refine JL_move rfl ?_
          refine JL_extract rfl rfl ?_
          refine JL_extract rfl rfl ?_
          refine JL_alloc z28 (fun b10 => ?_)
          refine JL_store (vs := [_, _, _, _, _, _]) 5 ty28 rfl rfl rfl (AllOne.cons rfl (AllOne.cons rfl (AllOne.cons rfl (AllOne.cons rfl (AllOne.cons rfl (AllOne.cons rfl AllOne.nil)))))) rfl (Nat.le_of_ble_eq_true rfl) ?_
          refine JL_assign rfl ?_
          refine JL_done_up 49 [box _ _ [_, _, _, _, _, _], box _ _ [_, _, _, _, _, _], box _ _ [_, _, _, _, _, _], box _ _ [_, _, _, _, _, _], box _ _ [_, _, _, _, _, _], box _ _ [_, _, _, _, _, _]] [_, _, _, _, _, _, _, _, _, _, _, _, _, _, _, _, _, _, _, _, _, _, _] rfl rfl (by simp only [upd_pend, upd_base, flatP, updV_zero, updV_succ]; rfl) rfl rfl ?_
          refine JC_seq ?_
          refine JC_drawT mixed 5 [spV 44 [] _, spC 45 [] _, spC 46 [0, 1] _, spC 47 [2] (SO (onv (v2 (fval (onv (v2 (fval (onv (v2 q1 q2 q3 q4) (q1 * q3))) (fval (onv (v2 q1 q2 q3 q4) (q2 * q4))) q5 q6) (fval (onv (v2 q1 q2 q3 q4) (q1 * q3)) * q5))) (fval (onv (v2 (fval (onv (v2 q1 q2 q3 q4) (q1 * q3))) (fval (onv (v2 q1 q2 q3 q4) (q2 * q4))) q5 q6) (fval (onv (v2 q1 q2 q3 q4) (q2 * q4)) * q6))) (ofq 1 1000) (ofq 1 1000)) (fval (onv (v2 (fval (onv (v2 q1 q2 q3 q4) (q1 * q3))) (fval (onv (v2 q1 q2 q3 q4) (q2 * q4))) q5 q6) (fval (onv (v2 q1 q2 q3 q4) (q1 * q3)) * q5)) * ofq 1 1000)) (onv (v2 (fval (onv (v2 (fval (onv (v2 q1 q2 q3 q4) (q1 * q3))) (fval (onv (v2 q1 q2 q3 q4) (q2 * q4))) q5 q6) (fval (onv (v2 q1 q2 q3 q4) (q1 * q3)) * q5))) (fval (onv (v2 (fval (onv (v2 q1 q2 q3 q4) (q1 * q3))) (fval (onv (v2 q1 q2 q3 q4) (q2 * q4))) q5 q6) (fval (onv (v2 q1 q2 q3 q4) (q2 * q4)) * q6))) (ofq 1 1000) (ofq 1 1000)) (fval (onv (v2 (fval (onv (v2 q1 q2 q3 q4) (q1 * q3))) (fval (onv (v2 q1 q2 q3 q4) (q2 * q4))) q5 q6) (fval (onv (v2 q1 q2 q3 q4) (q2 * q4)) * q6)) * ofq 1 1000))), spC 48 [2] (fun v φo => v = .int .i64 (er1 (v2 (fval (onv (v2 (fval (onv (v2 q1 q2 q3 q4) (q1 * q3))) (fval (onv (v2 q1 q2 q3 q4) (q2 * q4))) q5 q6) (fval (onv (v2 q1 q2 q3 q4) (q1 * q3)) * q5))) (fval (onv (v2 (fval (onv (v2 q1 q2 q3 q4) (q1 * q3))) (fval (onv (v2 q1 q2 q3 q4) (q2 * q4))) q5 q6) (fval (onv (v2 q1 q2 q3 q4) (q2 * q4)) * q6))) (ofq 1 1000) (ofq 1 1000))) ∧ φo = [])] ⟨OblS_V (fun vals ex ψ => (by
              refine JL_normQ ⟨49, [(44, _), (45, _), (46, _), (47, _), (48, _)], _⟩ (_ :: _ :: _ :: _ :: _ :: _ :: _ :: _ :: _ :: _ :: _ :: _ :: _ :: _ :: _ :: _ :: _ :: _ :: _ :: _ :: _ :: _ :: _ :: ψ) rfl rfl ?_
              refine JL_loadA (vs := [_, _, _, _, _, _]) 5 ty28 rfl rfl ⟨rfl, rfl, rfl, rfl, rfl, rfl, trivial⟩ ?_
              exact JL_nil (JE_stepV rfl ss0))), OblS_C (fun vals ex ψ => (by
              refine JL_normQ ⟨49, [(44, _), (45, _), (46, _), (47, _), (48, _)], _⟩ (_ :: _ :: _ :: _ :: _ :: _ :: _ :: _ :: _ :: _ :: _ :: _ :: _ :: _ :: _ :: _ :: _ :: _ :: _ :: _ :: _ :: _ :: _ :: ψ) rfl rfl ?_
              refine JL_callF' Asks.nil (fofi_con 1 1000 (by omega) (by omega)) rfl ca52 ⟨rfl, rfl, rfl⟩ ?_
              exact fun v φo hP => JL_nil (JE_stepC φo rfl hP (fun p hp => mapB_l hp) (fun p hp => mapB_r (ss0 p hp))))), OblS_C (fun vals ex ψ => (by
              refine JL_normQ ⟨49, [(44, _), (45, _), (46, _), (47, _), (48, _)], _⟩ (_ :: _ :: _ :: _ :: _ :: _ :: _ :: _ :: _ :: _ :: _ :: _ :: _ :: _ :: _ :: _ :: _ :: _ :: _ :: _ :: _ :: _ :: _ :: _ :: ψ) rfl rfl ?_
              generalize vals 1 = x45
              refine JL_usePost mm0 (fun φo hP => ?_)
              obtain ⟨ad45, cp45, be45, ce45, rfl, rfl⟩ := hP
              refine JL_norm _ _ (_ :: _ :: _ :: _ :: _ :: _ :: _ :: _ :: _ :: _ :: _ :: _ :: _ :: _ :: _ :: _ :: _ :: _ :: _ :: _ :: _ :: _ :: _ :: _ :: _ :: _ :: ψ) rfl rfl rfl ?_
              refine JL_callF' (Asks.cons (holds_of_mem (by repeat (first | with_reducible exact mm0 | refine mmS ?_))) (Asks.cons (holds_of_mem (by repeat (first | with_reducible exact mm0 | refine mmS ?_))) (Asks.cons (holds_of_mem (by repeat (first | with_reducible exact mm0 | refine mmS ?_))) (Asks.cons (holds_of_mem (by repeat (first | with_reducible exact mm0 | refine mmS ?_))) (Asks.cons (holds_of_mem (by repeat (first | with_reducible exact mm0 | refine mmS ?_))) (Asks.cons (holds_of_mem (by repeat (first | with_reducible exact mm0 | refine mmS ?_))) Asks.nil)))))) (iscale_con (FIn.of (o := onv (v2 (fval (onv (v2 q1 q2 q3 q4) (q1 * q3))) (fval (onv (v2 q1 q2 q3 q4) (q2 * q4))) q5 q6) (fval (onv (v2 q1 q2 q3 q4) (q1 * q3)) * q5)) (hqC.mono (by decide))) (FIn.of (o := onv (v2 (fval (onv (v2 q1 q2 q3 q4) (q1 * q3))) (fval (onv (v2 q1 q2 q3 q4) (q2 * q4))) q5 q6) (fval (onv (v2 q1 q2 q3 q4) (q2 * q4)) * q6)) (hqD.mono (by decide))) (FIn.some (q := ofq 1 1000) (hqT.mono (by decide)))) rfl ca22 ⟨rfl, rfl, rfl⟩ ?_
              exact fun v φo hP => JL_nil (JE_stepC φo rfl hP (fun p hp => mapB_l hp) (fun p hp => mapB_r ((ssS (ssS ss0)) p hp))))), OblS_C (fun vals ex ψ => (by
              refine JL_normQ ⟨49, [(44, _), (45, _), (46, _), (47, _), (48, _)], _⟩ (_ :: _ :: _ :: _ :: _ :: _ :: _ :: _ :: _ :: _ :: _ :: _ :: _ :: _ :: _ :: _ :: _ :: _ :: _ :: _ :: _ :: _ :: _ :: _ :: ψ) rfl rfl ?_
              generalize vals 2 = x46
              refine JL_usePost mm0 (fun φo hP => ?_)
              obtain ⟨ad46, cp46, be46, ce46, af46, cq46, bg46, cf46, rfl, rfl⟩ := hP
              refine JL_norm _ _ (_ :: _ :: _ :: _ :: _ :: _ :: _ :: _ :: _ :: _ :: _ :: _ :: _ :: _ :: _ :: _ :: _ :: _ :: _ :: _ :: _ :: _ :: _ :: _ :: _ :: _ :: _ :: _ :: ψ) rfl rfl rfl ?_
              refine JL_extract rfl rfl ?_
              exact JL_nil (JE_stepC [vCells ad46 (u32s (fnum (onv (v2 (fval (onv (v2 (fval (onv (v2 q1 q2 q3 q4) (q1 * q3))) (fval (onv (v2 q1 q2 q3 q4) (q2 * q4))) q5 q6) (fval (onv (v2 q1 q2 q3 q4) (q1 * q3)) * q5))) (fval (onv (v2 (fval (onv (v2 q1 q2 q3 q4) (q1 * q3))) (fval (onv (v2 q1 q2 q3 q4) (q2 * q4))) q5 q6) (fval (onv (v2 q1 q2 q3 q4) (q2 * q4)) * q6))) (ofq 1 1000) (ofq 1 1000)) (fval (onv (v2 (fval (onv (v2 q1 q2 q3 q4) (q1 * q3))) (fval (onv (v2 q1 q2 q3 q4) (q2 * q4))) q5 q6) (fval (onv (v2 q1 q2 q3 q4) (q1 * q3)) * q5)) * ofq 1 1000)))), vCells be46 (u32s (fden (onv (v2 (fval (onv (v2 (fval (onv (v2 q1 q2 q3 q4) (q1 * q3))) (fval (onv (v2 q1 q2 q3 q4) (q2 * q4))) q5 q6) (fval (onv (v2 q1 q2 q3 q4) (q1 * q3)) * q5))) (fval (onv (v2 (fval (onv (v2 q1 q2 q3 q4) (q1 * q3))) (fval (onv (v2 q1 q2 q3 q4) (q2 * q4))) q5 q6) (fval (onv (v2 q1 q2 q3 q4) (q2 * q4)) * q6))) (ofq 1 1000) (ofq 1 1000)) (fval (onv (v2 (fval (onv (v2 q1 q2 q3 q4) (q1 * q3))) (fval (onv (v2 q1 q2 q3 q4) (q2 * q4))) q5 q6) (fval (onv (v2 q1 q2 q3 q4) (q1 * q3)) * q5)) * ofq 1 1000)))), vCells af46 (u32s (fnum (onv (v2 (fval (onv (v2 (fval (onv (v2 q1 q2 q3 q4) (q1 * q3))) (fval (onv (v2 q1 q2 q3 q4) (q2 * q4))) q5 q6) (fval (onv (v2 q1 q2 q3 q4) (q1 * q3)) * q5))) (fval (onv (v2 (fval (onv (v2 q1 q2 q3 q4) (q1 * q3))) (fval (onv (v2 q1 q2 q3 q4) (q2 * q4))) q5 q6) (fval (onv (v2 q1 q2 q3 q4) (q2 * q4)) * q6))) (ofq 1 1000) (ofq 1 1000)) (fval (onv (v2 (fval (onv (v2 q1 q2 q3 q4) (q1 * q3))) (fval (onv (v2 q1 q2 q3 q4) (q2 * q4))) q5 q6) (fval (onv (v2 q1 q2 q3 q4) (q2 * q4)) * q6)) * ofq 1 1000)))), vCells bg46 (u32s (fden (onv (v2 (fval (onv (v2 (fval (onv (v2 q1 q2 q3 q4) (q1 * q3))) (fval (onv (v2 q1 q2 q3 q4) (q2 * q4))) q5 q6) (fval (onv (v2 q1 q2 q3 q4) (q1 * q3)) * q5))) (fval (onv (v2 (fval (onv (v2 q1 q2 q3 q4) (q1 * q3))) (fval (onv (v2 q1 q2 q3 q4) (q2 * q4))) q5 q6) (fval (onv (v2 q1 q2 q3 q4) (q2 * q4)) * q6))) (ofq 1 1000) (ofq 1 1000)) (fval (onv (v2 (fval (onv (v2 q1 q2 q3 q4) (q1 * q3))) (fval (onv (v2 q1 q2 q3 q4) (q2 * q4))) q5 q6) (fval (onv (v2 q1 q2 q3 q4) (q2 * q4)) * q6)) * ofq 1 1000))))] rfl ⟨ad46, cp46, be46, ce46, af46, cq46, bg46, cf46, rfl, rfl⟩ (all_cons (by repeat (first | with_reducible exact mm0 | refine mmS ?_)) (all_cons (by repeat (first | with_reducible exact mm0 | refine mmS ?_)) (all_cons (by repeat (first | with_reducible exact mm0 | refine mmS ?_)) (all_cons (by repeat (first | with_reducible exact mm0 | refine mmS ?_)) all_nil)))) (ssS (ssS (ssS (ssS ss0))))))), OblS_C (fun vals ex ψ => (by
              refine JL_normQ ⟨49, [(44, _), (45, _), (46, _), (47, _), (48, _)], _⟩ (_ :: _ :: _ :: _ :: _ :: _ :: _ :: _ :: _ :: _ :: _ :: _ :: _ :: _ :: _ :: _ :: _ :: _ :: _ :: _ :: _ :: _ :: _ :: _ :: ψ) rfl rfl ?_
              generalize vals 2 = x46
              refine JL_usePost mm0 (fun φo hP => ?_)
              obtain ⟨ad46, cp46, be46, ce46, af46, cq46, bg46, cf46, rfl, rfl⟩ := hP
              refine JL_norm _ _ (_ :: _ :: _ :: _ :: _ :: _ :: _ :: _ :: _ :: _ :: _ :: _ :: _ :: _ :: _ :: _ :: _ :: _ :: _ :: _ :: _ :: _ :: _ :: _ :: _ :: _ :: _ :: _ :: ψ) rfl rfl rfl ?_
              refine JL_extract rfl rfl ?_
              exact JL_nil (JE_stepC [] rfl ⟨rfl, rfl⟩ all_nil (ssS (ssS (ssS (ssS ss0))))))), trivial⟩ (by kernel_rfl) (fun vals bs => ?_)
          refine JL_normL [_, _] ⟨49, [(44, _), (45, _), (46, _), (47, _), (48, _)], _⟩ [box _ _ [_, _, _, _, _, _], box _ _ [_, _, _, _, _, _], box _ _ [_, _, _, _, _, _], box _ _ [_, _, _, _, _, _], box _ _ [_, _, _, _, _, _], box _ _ [_, _, _, _, _, _]] [_, _, _, _, _, _, _, _, _, _, _, _, _, _, _, _, _, _, _, _, _, _, _, _, _, _, _] rfl rfl rfl rfl ?_
          generalize vals (0 + 1) = x45
          generalize vals (0 + 1 + 1) = x46
          generalize vals (0 + 1 + 1 + 1) = x47
          generalize vals (0 + 1 + 1 + 1 + 1) = x48
          refine JL_usePost (mmS (mmS mm0)) (fun φo hP => ?_)
          obtain ⟨ad47, cp47, be47, ce47, af47, cq47, bg47, cf47, rfl, rfl⟩ := hP
          refine JL_norm _ [box _ _ [_, _, _, _, _, _], box _ _ [_, _, _, _, _, _], box _ _ [_, _, _, _, _, _], box _ _ [_, _, _, _, _, _], box _ _ [_, _, _, _, _, _], box _ _ [_, _, _, _, _, _]] [_, _, _, _, _, _, _, _, _, _, _, _, _, _, _, _, _, _, _, _, _, _, _, _, _, _, _, _, _, _, _] rfl rfl rfl ?_
          refine JL_usePost (mmS (mmS (mmS (mmS (mmS (mmS (mmS mm0))))))) (fun φo hP => ?_)
          obtain ⟨rfl, rfl⟩ := hP
          refine JL_norm _ [box _ _ [_, _, _, _, _, _], box _ _ [_, _, _, _, _, _], box _ _ [_, _, _, _, _, _], box _ _ [_, _, _, _, _, _], box _ _ [_, _, _, _, _, _], box _ _ [_, _, _, _, _, _]] [_, _, _, _, _, _, _, _, _, _, _, _, _, _, _, _, _, _, _, _, _, _, _, _, _, _, _, _, _, _, _] rfl rfl rfl ?_
          refine JL_store (vs := [_, _, _, _, _, _]) 3 ty28 rfl rfl rfl (AllOne.cons rfl (AllOne.cons rfl (AllOne.cons rfl (AllOne.cons rfl (AllOne.cons rfl (AllOne.cons rfl AllOne.nil)))))) rfl (Nat.le_of_ble_eq_true rfl) ?_
          refine JL_assign rfl ?_
          refine JL_done_up 49 [box _ _ [_, _, _, _, _, _], box _ _ [_, _, _, _, _, _], box _ _ [_, _, _, _, _, _], box _ _ [_, _, _, _, _, _], box _ _ [_, _, _, _, _, _], box _ _ [_, _, _, _, _, _]] [_, _, _, _, _, _, _, _, _, _, _, _, _, _, _, _, _, _, _, _, _, _, _, _, _, _, _, _, _, _, _] rfl rfl (by simp only [upd_pend, upd_base, flatP, updV_zero, updV_succ]; rfl) rfl rfl ?_
          refine JC_ret ?_
          have hv : (v2 q1 q2 q3 q4 && vld q5 q6) = true := by unfold v2; rw [h13, h17, h22]; rfl
          have he : blO q1 q2 q3 q4 q5 q6 = (onv (blW q1 q2 q3 q4 q5 q6) (bl3 q1 q2 q3 q4 q5 q6 * thou), onv (blW q1 q2 q3 q4 q5 q6) (bl4 q1 q2 q3 q4 q5 q6 * thou), er1 (blW q1 q2 q3 q4 q5 q6)) := by unfold blO; rw [hv, if_neg hc]; rfl
          refine JE_ret (vs := [_, _]) [vCells ad47 (u32s (fnum (onv (v2 (fval (onv (v2 (fval (onv (v2 q1 q2 q3 q4) (q1 * q3))) (fval (onv (v2 q1 q2 q3 q4) (q2 * q4))) q5 q6) (fval (onv (v2 q1 q2 q3 q4) (q1 * q3)) * q5))) (fval (onv (v2 (fval (onv (v2 q1 q2 q3 q4) (q1 * q3))) (fval (onv (v2 q1 q2 q3 q4) (q2 * q4))) q5 q6) (fval (onv (v2 q1 q2 q3 q4) (q2 * q4)) * q6))) (ofq 1 1000) (ofq 1 1000)) (fval (onv (v2 (fval (onv (v2 q1 q2 q3 q4) (q1 * q3))) (fval (onv (v2 q1 q2 q3 q4) (q2 * q4))) q5 q6) (fval (onv (v2 q1 q2 q3 q4) (q1 * q3)) * q5)) * ofq 1 1000)))), vCells be47 (u32s (fden (onv (v2 (fval (onv (v2 (fval (onv (v2 q1 q2 q3 q4) (q1 * q3))) (fval (onv (v2 q1 q2 q3 q4) (q2 * q4))) q5 q6) (fval (onv (v2 q1 q2 q3 q4) (q1 * q3)) * q5))) (fval (onv (v2 (fval (onv (v2 q1 q2 q3 q4) (q1 * q3))) (fval (onv (v2 q1 q2 q3 q4) (q2 * q4))) q5 q6) (fval (onv (v2 q1 q2 q3 q4) (q2 * q4)) * q6))) (ofq 1 1000) (ofq 1 1000)) (fval (onv (v2 (fval (onv (v2 q1 q2 q3 q4) (q1 * q3))) (fval (onv (v2 q1 q2 q3 q4) (q2 * q4))) q5 q6) (fval (onv (v2 q1 q2 q3 q4) (q1 * q3)) * q5)) * ofq 1 1000)))), vCells af47 (u32s (fnum (onv (v2 (fval (onv (v2 (fval (onv (v2 q1 q2 q3 q4) (q1 * q3))) (fval (onv (v2 q1 q2 q3 q4) (q2 * q4))) q5 q6) (fval (onv (v2 q1 q2 q3 q4) (q1 * q3)) * q5))) (fval (onv (v2 (fval (onv (v2 q1 q2 q3 q4) (q1 * q3))) (fval (onv (v2 q1 q2 q3 q4) (q2 * q4))) q5 q6) (fval (onv (v2 q1 q2 q3 q4) (q2 * q4)) * q6))) (ofq 1 1000) (ofq 1 1000)) (fval (onv (v2 (fval (onv (v2 q1 q2 q3 q4) (q1 * q3))) (fval (onv (v2 q1 q2 q3 q4) (q2 * q4))) q5 q6) (fval (onv (v2 q1 q2 q3 q4) (q2 * q4)) * q6)) * ofq 1 1000)))), vCells bg47 (u32s (fden (onv (v2 (fval (onv (v2 (fval (onv (v2 q1 q2 q3 q4) (q1 * q3))) (fval (onv (v2 q1 q2 q3 q4) (q2 * q4))) q5 q6) (fval (onv (v2 q1 q2 q3 q4) (q1 * q3)) * q5))) (fval (onv (v2 (fval (onv (v2 q1 q2 q3 q4) (q1 * q3))) (fval (onv (v2 q1 q2 q3 q4) (q2 * q4))) q5 q6) (fval (onv (v2 q1 q2 q3 q4) (q2 * q4)) * q6))) (ofq 1 1000) (ofq 1 1000)) (fval (onv (v2 (fval (onv (v2 q1 q2 q3 q4) (q1 * q3))) (fval (onv (v2 q1 q2 q3 q4) (q2 * q4))) q5 q6) (fval (onv (v2 q1 q2 q3 q4) (q2 * q4)) * q6)) * ofq 1 1000))))] Tryd.results20 ⟨RV.cell (vs := [_, _, _, _, _, _]) 3 ty28 rfl rfl ⟨rfl, rfl, rfl, rfl, rfl, rfl, trivial⟩, rfl, rfl⟩ ?_ ?_
          · rw [he]; exact ⟨ad47, cp47, be47, ce47, af47, cq47, bg47, cf47, rfl, rfl⟩
          · exact (all_cons (by repeat (first | with_reducible exact mm0 | refine mmS ?_)) (all_cons (by repeat (first | with_reducible exact mm0 | refine mmS ?_)) (all_cons (by repeat (first | with_reducible exact mm0 | refine mmS ?_)) (all_cons (by repeat (first | with_reducible exact mm0 | refine mmS ?_)) all_nil))))
      · refine JL_guard_yes rfl rfl ?_
        refine JL_not rfl ?_
        rw [Bool.not_false]
        refine JL_pick_f rfl rfl ?_
        refine JL_done_up 49 [box _ _ [_, _, _, _, _, _], box _ _ [_, _, _, _, _, _], box _ _ [_, _, _, _, _, _], box _ _ [_, _, _, _, _, _]] [_, _, _, _, _, _, _, _, _, _, _, _] rfl rfl (by simp only [upd_pend, upd_base, flatP, updV_zero, updV_succ]; rfl) rfl rfl ?_
        refine JC_true rfl ?_
        refine JC_seq ?_
        refine JC_region ?_
        refine JL_build (cs := [_, _, _, _, _, _]) [] st28 rfl rfl ?_
        refine JL_store (vs := [_, _, _, _, _, _]) 3 ty28 rfl rfl rfl (AllOne.cons rfl (AllOne.cons rfl (AllOne.cons rfl (AllOne.cons rfl (AllOne.cons rfl (AllOne.cons rfl AllOne.nil)))))) rfl (Nat.le_of_ble_eq_true rfl) ?_
        refine JL_assign rfl ?_
        refine JL_done_up 49 [box _ _ [_, _, _, _, _, _], box _ _ [_, _, _, _, _, _], box _ _ [_, _, _, _, _, _], box _ _ [_, _, _, _, _, _]] [_, _, _, _, _, _, _, _, _, _, _, _] rfl rfl (by simp only [upd_pend, upd_base, flatP, updV_zero, updV_succ]; rfl) rfl rfl ?_
        refine JC_ret ?_
        refine JE_then_ret ?_
        have hv : (v2 q1 q2 q3 q4 && vld q5 q6) = false := by unfold v2; first | (rw [h13]; rfl) | (rw [h17, Bool.and_false]; rfl) | (rw [h22, Bool.and_false])
        have he : blO q1 q2 q3 q4 q5 q6 = (none, none, 1) := by unfold blO; rw [hv]; rfl
        refine JE_nilView ?_
        refine JE_ret (vs := [_, _]) [vCells none (u32s []), vCells none (u32s []), vCells none (u32s []), vCells none (u32s [])] Tryd.results20 ⟨RV.cell (vs := [_, _, _, _, _, _]) 3 ty28 rfl rfl ⟨rfl, rfl, rfl, rfl, rfl, rfl, trivial⟩, rfl, rfl⟩ ?_ ?_
        · exact ⟨none, 0, none, 0, none, 0, none, 0, by rw [he]; rfl, by rw [he]; rfl⟩
        · exact (all_cons (by repeat (first | with_reducible exact mm0 | refine mmS ?_)) (all_cons (by repeat (first | with_reducible exact mm0 | refine mmS ?_)) (all_cons (by repeat (first | with_reducible exact mm0 | refine mmS ?_)) (all_cons (by repeat (first | with_reducible exact mm0 | refine mmS ?_)) all_nil))))
    · refine JL_guard_yes rfl rfl ?_
      refine JL_not rfl ?_
      rw [Bool.not_false]
      refine JL_pick_f rfl rfl ?_
      refine JL_move rfl ?_
      refine JL_guard_no rfl rfl ?_
      refine JL_guard_no rfl rfl ?_
      refine JL_guard_no rfl rfl ?_
      refine JL_pick_t rfl rfl ?_
      refine JL_done_up 49 [box _ _ [_, _, _, _, _, _], box _ _ [_, _, _, _, _, _], box _ _ [_, _, _, _, _, _], box _ _ [_, _, _, _, _, _]] [_, _, _, _, _, _, _, _, _, _, _, _] rfl rfl (by simp only [upd_pend, upd_base, flatP, updV_zero, updV_succ]; rfl) rfl rfl ?_
      refine JC_true rfl ?_
      refine JC_seq ?_
      refine JC_region ?_
      refine JL_build (cs := [_, _, _, _, _, _]) [] st28 rfl rfl ?_
      refine JL_store (vs := [_, _, _, _, _, _]) 3 ty28 rfl rfl rfl (AllOne.cons rfl (AllOne.cons rfl (AllOne.cons rfl (AllOne.cons rfl (AllOne.cons rfl (AllOne.cons rfl AllOne.nil)))))) rfl (Nat.le_of_ble_eq_true rfl) ?_
      refine JL_assign rfl ?_
      refine JL_done_up 49 [box _ _ [_, _, _, _, _, _], box _ _ [_, _, _, _, _, _], box _ _ [_, _, _, _, _, _], box _ _ [_, _, _, _, _, _]] [_, _, _, _, _, _, _, _, _, _, _, _] rfl rfl (by simp only [upd_pend, upd_base, flatP, updV_zero, updV_succ]; rfl) rfl rfl ?_
      refine JC_ret ?_
      refine JE_then_ret ?_
      have hv : (v2 q1 q2 q3 q4 && vld q5 q6) = false := by unfold v2; first | (rw [h13]; rfl) | (rw [h17, Bool.and_false]; rfl) | (rw [h22, Bool.and_false])
      have he : blO q1 q2 q3 q4 q5 q6 = (none, none, 1) := by unfold blO; rw [hv]; rfl
      refine JE_nilView ?_
      refine JE_ret (vs := [_, _]) [vCells none (u32s []), vCells none (u32s []), vCells none (u32s []), vCells none (u32s [])] Tryd.results20 ⟨RV.cell (vs := [_, _, _, _, _, _]) 3 ty28 rfl rfl ⟨rfl, rfl, rfl, rfl, rfl, rfl, trivial⟩, rfl, rfl⟩ ?_ ?_
      · exact ⟨none, 0, none, 0, none, 0, none, 0, by rw [he]; rfl, by rw [he]; rfl⟩
      · exact (all_cons (by repeat (first | with_reducible exact mm0 | refine mmS ?_)) (all_cons (by repeat (first | with_reducible exact mm0 | refine mmS ?_)) (all_cons (by repeat (first | with_reducible exact mm0 | refine mmS ?_)) (all_cons (by repeat (first | with_reducible exact mm0 | refine mmS ?_)) all_nil))))
  · refine JL_not rfl ?_
    rw [Bool.not_false]
    refine JL_move rfl ?_
    refine JL_guard_no rfl rfl ?_
    refine JL_guard_no rfl rfl ?_
    refine JL_guard_no rfl rfl ?_
    refine JL_pick_t rfl rfl ?_
    refine JL_move rfl ?_
    refine JL_guard_no rfl rfl ?_
    refine JL_guard_no rfl rfl ?_
    refine JL_guard_no rfl rfl ?_
    refine JL_pick_t rfl rfl ?_
    refine JL_done_up 49 [box _ _ [_, _, _, _, _, _], box _ _ [_, _, _, _, _, _], box _ _ [_, _, _, _, _, _], box _ _ [_, _, _, _, _, _]] [_, _, _, _, _, _, _, _, _, _, _, _] rfl rfl (by simp only [upd_pend, upd_base, flatP, updV_zero, updV_succ]; rfl) rfl rfl ?_
    refine JC_true rfl ?_
    refine JC_seq ?_
    refine JC_region ?_
    refine JL_build (cs := [_, _, _, _, _, _]) [] st28 rfl rfl ?_
    refine JL_store (vs := [_, _, _, _, _, _]) 3 ty28 rfl rfl rfl (AllOne.cons rfl (AllOne.cons rfl (AllOne.cons rfl (AllOne.cons rfl (AllOne.cons rfl (AllOne.cons rfl AllOne.nil)))))) rfl (Nat.le_of_ble_eq_true rfl) ?_
    refine JL_assign rfl ?_
    refine JL_done_up 49 [box _ _ [_, _, _, _, _, _], box _ _ [_, _, _, _, _, _], box _ _ [_, _, _, _, _, _], box _ _ [_, _, _, _, _, _]] [_, _, _, _, _, _, _, _, _, _, _, _] rfl rfl (by simp only [upd_pend, upd_base, flatP, updV_zero, updV_succ]; rfl) rfl rfl ?_
    refine JC_ret ?_
    refine JE_then_ret ?_
    have hv : (v2 q1 q2 q3 q4 && vld q5 q6) = false := by unfold v2; first | (rw [h13]; rfl) | (rw [h17, Bool.and_false]; rfl) | (rw [h22, Bool.and_false])
    have he : blO q1 q2 q3 q4 q5 q6 = (none, none, 1) := by unfold blO; rw [hv]; rfl
    refine JE_nilView ?_
    refine JE_ret (vs := [_, _]) [vCells none (u32s []), vCells none (u32s []), vCells none (u32s []), vCells none (u32s [])] Tryd.results20 ⟨RV.cell (vs := [_, _, _, _, _, _]) 3 ty28 rfl rfl ⟨rfl, rfl, rfl, rfl, rfl, rfl, trivial⟩, rfl, rfl⟩ ?_ ?_
    · exact ⟨none, 0, none, 0, none, 0, none, 0, by rw [he]; rfl, by rw [he]; rfl⟩
    · exact (all_cons (by repeat (first | with_reducible exact mm0 | refine mmS ?_)) (all_cons (by repeat (first | with_reducible exact mm0 | refine mmS ?_)) (all_cons (by repeat (first | with_reducible exact mm0 | refine mmS ?_)) (all_cons (by repeat (first | with_reducible exact mm0 | refine mmS ?_)) all_nil))))

end Go.Fw.K
