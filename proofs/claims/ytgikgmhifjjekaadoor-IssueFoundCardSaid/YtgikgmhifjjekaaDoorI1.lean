/- Walks through functions of the given program: each meets its contract. (Printed by a program of this repo.) -/
import Derived.Test.YtgikgmhifjjekaaDoorF4
import Derived.Test.YtgikgmhifjjekaaDoorFwL
import Derived.Test.YtgikgmhifjjekaaDoorProg
namespace Go.Fw.I1
open Go Go.RowKit Go.Proofs Go.Nat9 Go.Fw
attribute [local irreducible] JC JL JE
theorem ca16 : callable Tryd.prog 16 = true := by kernel_rfl
theorem ca17 : callable Tryd.prog 17 = true := by kernel_rfl
theorem ca20 : callable Tryd.prog 20 = true := by kernel_rfl
theorem ca21 : callable Tryd.prog 21 = true := by kernel_rfl
theorem ca22 : callable Tryd.prog 22 = true := by kernel_rfl
theorem ca29 : callable Tryd.prog 29 = true := by kernel_rfl
theorem ca31 : callable Tryd.prog 31 = true := by kernel_rfl
theorem ca39 : callable Tryd.prog 39 = true := by kernel_rfl
theorem fo28_0 : fOf Tryd.prog 28 0 = some 0 := by kernel_rfl
theorem fo28_1 : fOf Tryd.prog 28 1 = some 3 := by kernel_rfl
theorem mixed : Tryd.prog.follows .mixedOrders = true := by kernel_rfl
theorem st28 : stOf Tryd.prog 28 = some ([(0, 3), (3, 3)], [.bool false, .slice none 0 0, .slice none 0 0, .bool false, .slice none 0 0, .slice none 0 0]) := by kernel_rfl
theorem ty26 : tyOf Tryd.prog 26 = some (true, 3) := by kernel_rfl
theorem ty28 : tyOf Tryd.prog 28 = some (true, 6) := by kernel_rfl
theorem z26 : zeroOf Tryd.prog 26 = some [.bool false, .slice none 0 0, .slice none 0 0] := by kernel_rfl
theorem z28 : zeroOf Tryd.prog 28 = some [.bool false, .slice none 0 0, .slice none 0 0, .bool false, .slice none 0 0, .slice none 0 0] := by kernel_rfl
end Go.Fw.I1
namespace Go.Fw.K
open Go Go.RowKit Go.Proofs Go.Nat9 Go.Fw Go.Fw.I1
attribute [local irreducible] JC JL JE

theorem ivalid_con {s1 : Bool} {ad1 : Option Addr} {n1 c1 : Nat} {L1 : List Nat} {be1 : Option Addr} {m1 e1 : Nat} {M1 : List Nat} {q1 : Rat} (g1 : FIn s1 n1 L1 m1 M1 q1 1000000) {s2 : Bool} {ad2 : Option Addr} {n2 c2 : Nat} {L2 : List Nat} {be2 : Option Addr} {m2 e2 : Nat} {M2 : List Nat} {q2 : Rat} (g2 : FIn s2 n2 L2 m2 M2 q2 1000000) :
    ConF Tryd.prog 31 [.agg #[.bool s1, .slice ad1 n1 c1, .slice be1 m1 e1, .bool s2, .slice ad2 n2 c2, .slice be2 m2 e2]] [vCells ad1 (u32s L1), vCells be1 (u32s M1), vCells ad2 (u32s L2), vCells be2 (u32s M2)]
      (fun v φo => v = .bool (vld q1 q2) ∧ φo = []) := by
  refine ConF_of Tryd.func31 rfl 15 _ rfl rfl ?_
  intro w0
  refine JC_norm ⟨15, [], [_, _, _, _, _, _, _, _, _, _, _, _, _, _, _]⟩ [] [_, _, _, _] rfl rfl rfl ?_
  refine JC_seq ?_
  refine JC_region ?_
  refine JL_box rfl rfl (fun b1 => ?_)
  refine JL_assign rfl ?_
  refine JL_done_up 15 [box _ _ [_, _, _, _, _, _]] [_, _, _, _] rfl rfl (by simp only [upd_pend, upd_base, flatP, updV_zero, updV_succ]; rfl) rfl rfl ?_
  refine JC_seq ?_
  refine JC_region ?_
  refine JL_fieldAddr fo28_0 rfl ?_
  refine JL_loadA (vs := [_, _, _]) 0 ty26 rfl rfl ⟨rfl, rfl, rfl, trivial⟩ ?_
  refine JL_callF' (Asks.cons (holds_of_mem (by repeat (first | with_reducible exact mm0 | refine mmS ?_))) (Asks.cons (holds_of_mem (by repeat (first | with_reducible exact mm0 | refine mmS ?_))) Asks.nil)) (fsign_con (g1.mono (by omega))) rfl ca16 ⟨rfl, rfl⟩ ?_
  rintro _ _ ⟨rfl, rfl⟩
  refine JL_geq rfl rfl ?_
  refine JL_split (fun h6 => ?_) (fun h6 => ?_)
  · refine JL_move rfl ?_
    refine JL_guard_yes rfl rfl ?_
    refine JL_fieldAddr fo28_0 rfl ?_
    refine JL_guard_yes rfl rfl ?_
    refine JL_loadA (vs := [_, _, _]) 0 ty26 rfl rfl ⟨rfl, rfl, rfl, trivial⟩ ?_
    refine JL_guard_yes rfl rfl ?_
    refine JL_fieldAddr fo28_1 rfl ?_
    refine JL_guard_yes rfl rfl ?_
    refine JL_loadA (vs := [_, _, _]) 0 ty26 rfl rfl ⟨rfl, rfl, rfl, trivial⟩ ?_
    refine JL_guard_yes rfl rfl ?_
    refine JL_callF' (Asks.cons (holds_of_mem (by repeat (first | with_reducible exact mm0 | refine mmS ?_))) (Asks.cons (holds_of_mem (by repeat (first | with_reducible exact mm0 | refine mmS ?_))) (Asks.cons (holds_of_mem (by repeat (first | with_reducible exact mm0 | refine mmS ?_))) (Asks.cons (holds_of_mem (by repeat (first | with_reducible exact mm0 | refine mmS ?_))) Asks.nil)))) (fcmpq_con g1 g2) rfl ca17 ⟨rfl, rfl, rfl⟩ ?_
    rintro _ _ ⟨rfl, rfl⟩
    refine JL_guard_yes rfl rfl ?_
    refine JL_leq rfl rfl ?_
    refine JL_pick_t rfl rfl ?_
    refine JL_assign rfl ?_
    refine JL_done_up 15 [box _ _ [_, _, _, _, _, _]] [_, _, _, _] rfl rfl (by simp only [upd_pend, upd_base, flatP, updV_zero, updV_succ]; rfl) rfl rfl ?_
    refine JC_ret ?_
    refine JE_ret (vs := [_]) [] Tryd.results31 ⟨rfl, rfl⟩ ?_ ?_
    · exact ⟨by first | (rw [vld_t (p := q1) h6]; rfl) | (rw [vld_f (p := q1) h6]; rfl), rfl⟩
    · exact all_nil
  · refine JL_move rfl ?_
    refine JL_guard_no rfl rfl ?_
    refine JL_guard_no rfl rfl ?_
    refine JL_guard_no rfl rfl ?_
    refine JL_guard_no rfl rfl ?_
    refine JL_guard_no rfl rfl ?_
    refine JL_guard_no rfl rfl ?_
    refine JL_pick_f rfl rfl ?_
    refine JL_assign rfl ?_
    refine JL_done_up 15 [box _ _ [_, _, _, _, _, _]] [_, _, _, _] rfl rfl (by simp only [upd_pend, upd_base, flatP, updV_zero, updV_succ]; rfl) rfl rfl ?_
    refine JC_ret ?_
    refine JE_ret (vs := [_]) [] Tryd.results31 ⟨rfl, rfl⟩ ?_ ?_
    · exact ⟨by first | (rw [vld_t (p := q1) h6]; rfl) | (rw [vld_f (p := q1) h6]; rfl), rfl⟩
    · exact all_nil

theorem ione_con  :
    ConF Tryd.prog 32 [] []
      (FO (some oneQ)) := by
  refine ConF_of Tryd.func32 rfl 2 _ rfl rfl ?_
  intro w0
  refine JC_norm ⟨2, [], [_, _]⟩ [] [] rfl rfl rfl ?_
  refine JC_seq ?_
  refine JC_region ?_
  refine JL_alloc z26 (fun b0 => ?_)
  refine JL_done_up 2 [box _ _ [_, _, _]] [] rfl rfl (by simp only [upd_pend, upd_base, flatP, updV_zero, updV_succ]; rfl) rfl rfl ?_
  refine JC_seq ?_
  refine JC_region ?_
  refine JL_callF' Asks.nil (fofi_con 1 1 (by omega) (by omega)) rfl ca20 ⟨rfl, rfl, rfl⟩ ?_
  rintro _ _ ⟨ad1, cp1, be1, ce1, rfl, rfl⟩
  refine JL_store (vs := [_, _, _]) 0 ty26 rfl rfl rfl (AllOne.cons rfl (AllOne.cons rfl (AllOne.cons rfl AllOne.nil))) rfl (Nat.le_of_ble_eq_true rfl) ?_
  refine JL_done_up 2 [box _ _ [_, _, _]] [_, _] rfl rfl (by simp only [upd_pend, upd_base, flatP, updV_zero, updV_succ]; rfl) rfl rfl ?_
  refine JC_ret ?_
  refine JE_ret (vs := [_]) [vCells ad1 (u32s (fnum (some (ofq 1 1)))), vCells be1 (u32s (fden (some (ofq 1 1))))] Tryd.results32 ⟨RV.cell (vs := [_, _, _]) 0 ty26 rfl rfl ⟨rfl, rfl, rfl, trivial⟩, rfl⟩ ?_ ?_
  · exact ⟨ad1, cp1, be1, ce1, rfl, rfl⟩
  · exact (all_cons (by repeat (first | with_reducible exact mm0 | refine mmS ?_)) (all_cons (by repeat (first | with_reducible exact mm0 | refine mmS ?_)) all_nil))

theorem inorm_con {s1 : Bool} {ad1 : Option Addr} {n1 c1 : Nat} {L1 : List Nat} {be1 : Option Addr} {m1 e1 : Nat} {M1 : List Nat} {q1 : Rat} (g1 : FIn s1 n1 L1 m1 M1 q1 1000000) {s2 : Bool} {ad2 : Option Addr} {n2 c2 : Nat} {L2 : List Nat} {be2 : Option Addr} {m2 e2 : Nat} {M2 : List Nat} {q2 : Rat} (g2 : FIn s2 n2 L2 m2 M2 q2 1000000) :
    ConF Tryd.prog 42 [.agg #[.bool s1, .slice ad1 n1 c1, .slice be1 m1 e1, .bool s2, .slice ad2 n2 c2, .slice be2 m2 e2]] [vCells ad1 (u32s L1), vCells be1 (u32s M1), vCells ad2 (u32s L2), vCells be2 (u32s M2)]
      (SO (some q1) (some q2)) := by
  refine ConF_of Tryd.func42 rfl 10 _ rfl rfl ?_
  intro w0
  refine JC_norm ⟨10, [], [_, _, _, _, _, _, _, _, _, _]⟩ [] [_, _, _, _] rfl rfl rfl ?_
  refine JC_seq ?_
  refine JC_region ?_
  refine JL_box rfl rfl (fun b1 => ?_)
  refine JL_alloc z28 (fun b2 => ?_)
  refine JL_done_up 10 [box _ _ [_, _, _, _, _, _], box _ _ [_, _, _, _, _, _]] [_, _, _, _] rfl rfl (by simp only [upd_pend, upd_base, flatP, updV_zero, updV_succ]; rfl) rfl rfl ?_
  refine JC_seq ?_
  refine JC_drawT mixed 5 [spV 3 [] _, spV 4 [0] _, spC 5 [1] _, spV 6 [] _, spV 7 [3] _] ⟨OblS_V (fun vals ex ψ => (by
      refine JL_normQ ⟨10, [(3, _), (4, _), (5, _), (6, _), (7, _)], _⟩ (_ :: _ :: _ :: _ :: ψ) rfl rfl ?_
      refine JL_fieldAddr fo28_0 rfl ?_
      exact JL_nil (JE_stepV rfl ss0))), OblS_V (fun vals ex ψ => (by
      refine JL_normQ ⟨10, [(3, _), (4, _), (5, _), (6, _), (7, _)], _⟩ (_ :: _ :: _ :: _ :: ψ) rfl rfl ?_
      refine JL_loadA (vs := [_, _, _]) 0 ty26 rfl rfl ⟨rfl, rfl, rfl, trivial⟩ ?_
      exact JL_nil (JE_stepV rfl ss0))), OblS_C (fun vals ex ψ => (by
      refine JL_normQ ⟨10, [(3, _), (4, _), (5, _), (6, _), (7, _)], _⟩ (_ :: _ :: _ :: _ :: ψ) rfl rfl ?_
      refine JL_callF' (Asks.cons (holds_of_mem (by repeat (first | with_reducible exact mm0 | refine mmS ?_))) (Asks.cons (holds_of_mem (by repeat (first | with_reducible exact mm0 | refine mmS ?_))) Asks.nil)) (fnorm_con (g1.mono (by omega))) rfl ca39 ⟨rfl, rfl⟩ ?_
      exact fun v φo hP => JL_nil (JE_stepC φo rfl hP (fun p hp => mapB_l hp) (fun p hp => mapB_r (ss0 p hp))))), OblS_V (fun vals ex ψ => (by
      refine JL_normQ ⟨10, [(3, _), (4, _), (5, _), (6, _), (7, _)], _⟩ (_ :: _ :: _ :: _ :: ψ) rfl rfl ?_
      refine JL_fieldAddr fo28_1 rfl ?_
      exact JL_nil (JE_stepV rfl ss0))), OblS_V (fun vals ex ψ => (by
      refine JL_normQ ⟨10, [(3, _), (4, _), (5, _), (6, _), (7, _)], _⟩ (_ :: _ :: _ :: _ :: ψ) rfl rfl ?_
      refine JL_loadA (vs := [_, _, _]) 0 ty26 rfl rfl ⟨rfl, rfl, rfl, trivial⟩ ?_
      exact JL_nil (JE_stepV rfl ss0))), trivial⟩ (by kernel_rfl) (fun vals bs => ?_)
  refine JL_normL [_, _, _] ⟨10, [(3, _), (4, _), (5, _), (6, _), (7, _)], _⟩ [box _ _ [_, _, _, _, _, _], box _ _ [_, _, _, _, _, _]] [_, _, _, _, _] rfl rfl rfl rfl ?_
  generalize vals (0 + 1 + 1) = x5
  refine JL_usePost mm0 (fun φo hP => ?_)
  obtain ⟨ad5, cp5, be5, ce5, rfl, rfl⟩ := hP
  refine JL_norm _ [box _ _ [_, _, _, _, _, _], box _ _ [_, _, _, _, _, _]] [_, _, _, _, _, _, _] rfl rfl rfl ?_
  refine JL_callF' (Asks.cons (holds_of_mem (by repeat (first | with_reducible exact mm0 | refine mmS ?_))) (Asks.cons (holds_of_mem (by repeat (first | with_reducible exact mm0 | refine mmS ?_))) Asks.nil)) (fnorm_con (g2.mono (by omega))) rfl ca39 ⟨rfl, rfl⟩ ?_
  rintro _ _ ⟨ad8, cp8, be8, ce8, rfl, rfl⟩
  refine JL_build (cs := [_, _, _, _, _, _]) [(0, [_, _, _]), (1, [_, _, _])] st28 ⟨⟨rfl, _, rfl, rfl⟩, ⟨rfl, _, rfl, rfl⟩, rfl⟩ rfl ?_
  refine JL_store (vs := [_, _, _, _, _, _]) 1 ty28 rfl rfl rfl (AllOne.cons rfl (AllOne.cons rfl (AllOne.cons rfl (AllOne.cons rfl (AllOne.cons rfl (AllOne.cons rfl AllOne.nil)))))) rfl (Nat.le_of_ble_eq_true rfl) ?_
  refine JL_done_up 10 [box _ _ [_, _, _, _, _, _], box _ _ [_, _, _, _, _, _]] [_, _, _, _, _, _, _, _, _] rfl rfl (by simp only [upd_pend, upd_base, flatP, updV_zero, updV_succ]; rfl) rfl rfl ?_
  refine JC_ret ?_
  refine JE_ret (vs := [_]) [vCells ad5 (u32s (fnum (some (q1)))), vCells be5 (u32s (fden (some (q1)))), vCells ad8 (u32s (fnum (some (q2)))), vCells be8 (u32s (fden (some (q2))))] Tryd.results42 ⟨RV.cell (vs := [_, _, _, _, _, _]) 1 ty28 rfl rfl ⟨rfl, rfl, rfl, rfl, rfl, rfl, trivial⟩, rfl⟩ ?_ ?_
  · exact ⟨ad5, cp5, be5, ce5, ad8, cp8, be8, ce8, rfl, rfl⟩
  · exact (all_cons (by repeat (first | with_reducible exact mm0 | refine mmS ?_)) (all_cons (by repeat (first | with_reducible exact mm0 | refine mmS ?_)) (all_cons (by repeat (first | with_reducible exact mm0 | refine mmS ?_)) (all_cons (by repeat (first | with_reducible exact mm0 | refine mmS ?_)) all_nil))))

theorem ibothA_con {s1 : Bool} {ad1 : Option Addr} {n1 c1 : Nat} {L1 : List Nat} {be1 : Option Addr} {m1 e1 : Nat} {M1 : List Nat} {q1 : Rat} (g1 : FIn s1 n1 L1 m1 M1 q1 1000000) {s2 : Bool} {ad2 : Option Addr} {n2 c2 : Nat} {L2 : List Nat} {be2 : Option Addr} {m2 e2 : Nat} {M2 : List Nat} {q2 : Rat} (g2 : FIn s2 n2 L2 m2 M2 q2 1000000) {s3 : Bool} {ad3 : Option Addr} {n3 c3 : Nat} {L3 : List Nat} {be3 : Option Addr} {m3 e3 : Nat} {M3 : List Nat} {q3 : Rat} (g3 : FIn s3 n3 L3 m3 M3 q3 1000000) {s4 : Bool} {ad4 : Option Addr} {n4 c4 : Nat} {L4 : List Nat} {be4 : Option Addr} {m4 e4 : Nat} {M4 : List Nat} {q4 : Rat} (g4 : FIn s4 n4 L4 m4 M4 q4 1000000) :
    ConF Tryd.prog 29 [.agg #[.bool s1, .slice ad1 n1 c1, .slice be1 m1 e1, .bool s2, .slice ad2 n2 c2, .slice be2 m2 e2], .agg #[.bool s3, .slice ad3 n3 c3, .slice be3 m3 e3, .bool s4, .slice ad4 n4 c4, .slice be4 m4 e4], .func (.func 21) #[] #[]] [vCells ad1 (u32s L1), vCells be1 (u32s M1), vCells ad2 (u32s L2), vCells be2 (u32s M2), vCells ad3 (u32s L3), vCells be3 (u32s M3), vCells ad4 (u32s L4), vCells be4 (u32s M4)]
      (SOE (onv (v2 q1 q2 q3 q4) (q1 + q3)) (onv (v2 q1 q2 q3 q4) (q2 + q4)) (.int .i64 (er1 (v2 q1 q2 q3 q4)))) := by
  refine ConF_of Tryd.func29 rfl 30 _ rfl rfl ?_
  intro w0
  refine JC_norm ⟨30, [], [_, _, _, _, _, _, _, _, _, _, _, _, _, _, _, _, _, _, _, _, _, _, _, _, _, _, _, _, _, _]⟩ [] [_, _, _, _, _, _, _, _] rfl rfl rfl ?_
  refine JC_seq ?_
  refine JC_region ?_
  refine JL_box rfl rfl (fun b3 => ?_)
  refine JL_box rfl rfl (fun b4 => ?_)
  refine JL_alloc z28 (fun b6 => ?_)
  refine JL_assign rfl ?_
  refine JL_done_up 30 [box _ _ [_, _, _, _, _, _], box _ _ [_, _, _, _, _, _], box _ _ [_, _, _, _, _, _]] [_, _, _, _, _, _, _, _] rfl rfl (by simp only [upd_pend, upd_base, flatP, updV_zero, updV_succ]; rfl) rfl rfl ?_
  refine JC_seq ?_
  refine JC_seq ?_
  refine JC_region ?_
  refine JL_loadA (vs := [_, _, _, _, _, _]) 0 ty28 rfl rfl ⟨rfl, rfl, rfl, rfl, rfl, rfl, trivial⟩ ?_
  refine JL_callF' (Asks.cons (holds_of_mem (by repeat (first | with_reducible exact mm0 | refine mmS ?_))) (Asks.cons (holds_of_mem (by repeat (first | with_reducible exact mm0 | refine mmS ?_))) (Asks.cons (holds_of_mem (by repeat (first | with_reducible exact mm0 | refine mmS ?_))) (Asks.cons (holds_of_mem (by repeat (first | with_reducible exact mm0 | refine mmS ?_))) Asks.nil)))) (ivalid_con g1 g2) rfl ca31 ⟨rfl, rfl⟩ ?_
  rintro _ _ ⟨rfl, rfl⟩
  refine JL_splitV (fun h9 => ?_) (fun h9 => ?_)
  · refine JL_not rfl ?_
    rw [Bool.not_true]
    refine JL_move rfl ?_
    refine JL_guard_yes rfl rfl ?_
    refine JL_loadA (vs := [_, _, _, _, _, _]) 1 ty28 rfl rfl ⟨rfl, rfl, rfl, rfl, rfl, rfl, trivial⟩ ?_
    refine JL_guard_yes rfl rfl ?_
    refine JL_callF' (Asks.cons (holds_of_mem (by repeat (first | with_reducible exact mm0 | refine mmS ?_))) (Asks.cons (holds_of_mem (by repeat (first | with_reducible exact mm0 | refine mmS ?_))) (Asks.cons (holds_of_mem (by repeat (first | with_reducible exact mm0 | refine mmS ?_))) (Asks.cons (holds_of_mem (by repeat (first | with_reducible exact mm0 | refine mmS ?_))) Asks.nil)))) (ivalid_con g3 g4) rfl ca31 ⟨rfl, rfl⟩ ?_
    rintro _ _ ⟨rfl, rfl⟩
    refine JL_splitV (fun h13 => ?_) (fun h13 => ?_)
    · refine JL_guard_yes rfl rfl ?_
      refine JL_not rfl ?_
      rw [Bool.not_true]
      refine JL_pick_f rfl rfl ?_
      refine JL_done_up 30 [box _ _ [_, _, _, _, _, _], box _ _ [_, _, _, _, _, _], box _ _ [_, _, _, _, _, _]] [_, _, _, _, _, _, _, _] rfl rfl (by simp only [upd_pend, upd_base, flatP, updV_zero, updV_succ]; rfl) rfl rfl ?_
      refine JC_false rfl ?_
      refine JC_skip ?_
      refine JE_then ?_
      refine JC_seq ?_
      refine JC_drawT mixed 11 [spV 17 [] _, spV 18 [] _, spV 19 [1] _, spV 20 [] _, spV 21 [3] _, spC 22 [0, 2, 4] _, spV 23 [] _, spV 24 [] _, spV 25 [7] _, spV 26 [] _, spV 27 [9] _] ⟨OblS_V (fun vals ex ψ => (by
          refine JL_normQ ⟨30, [(17, _), (18, _), (19, _), (20, _), (21, _), (22, _), (23, _), (24, _), (25, _), (26, _), (27, _)], _⟩ (_ :: _ :: _ :: _ :: _ :: _ :: _ :: _ :: ψ) rfl rfl ?_
          refine JL_move rfl ?_
          exact JL_nil (JE_stepV rfl ss0))), OblS_V (fun vals ex ψ => (by
          refine JL_normQ ⟨30, [(17, _), (18, _), (19, _), (20, _), (21, _), (22, _), (23, _), (24, _), (25, _), (26, _), (27, _)], _⟩ (_ :: _ :: _ :: _ :: _ :: _ :: _ :: _ :: ψ) rfl rfl ?_
          refine JL_fieldAddr fo28_0 rfl ?_
          exact JL_nil (JE_stepV rfl ss0))), OblS_V (fun vals ex ψ => (by
          refine JL_normQ ⟨30, [(17, _), (18, _), (19, _), (20, _), (21, _), (22, _), (23, _), (24, _), (25, _), (26, _), (27, _)], _⟩ (_ :: _ :: _ :: _ :: _ :: _ :: _ :: _ :: ψ) rfl rfl ?_
          refine JL_loadA (vs := [_, _, _]) 0 ty26 rfl rfl ⟨rfl, rfl, rfl, trivial⟩ ?_
          exact JL_nil (JE_stepV rfl ss0))), OblS_V (fun vals ex ψ => (by
          refine JL_normQ ⟨30, [(17, _), (18, _), (19, _), (20, _), (21, _), (22, _), (23, _), (24, _), (25, _), (26, _), (27, _)], _⟩ (_ :: _ :: _ :: _ :: _ :: _ :: _ :: _ :: ψ) rfl rfl ?_
          refine JL_fieldAddr fo28_0 rfl ?_
          exact JL_nil (JE_stepV rfl ss0))), OblS_V (fun vals ex ψ => (by
          refine JL_normQ ⟨30, [(17, _), (18, _), (19, _), (20, _), (21, _), (22, _), (23, _), (24, _), (25, _), (26, _), (27, _)], _⟩ (_ :: _ :: _ :: _ :: _ :: _ :: _ :: _ :: ψ) rfl rfl ?_
          refine JL_loadA (vs := [_, _, _]) 1 ty26 rfl rfl ⟨rfl, rfl, rfl, trivial⟩ ?_
          exact JL_nil (JE_stepV rfl ss0))), OblS_C (fun vals ex ψ => (by
          refine JL_normQ ⟨30, [(17, _), (18, _), (19, _), (20, _), (21, _), (22, _), (23, _), (24, _), (25, _), (26, _), (27, _)], _⟩ (_ :: _ :: _ :: _ :: _ :: _ :: _ :: _ :: ψ) rfl rfl ?_
          refine JL_callF' (Asks.cons (holds_of_mem (by repeat (first | with_reducible exact mm0 | refine mmS ?_))) (Asks.cons (holds_of_mem (by repeat (first | with_reducible exact mm0 | refine mmS ?_))) (Asks.cons (holds_of_mem (by repeat (first | with_reducible exact mm0 | refine mmS ?_))) (Asks.cons (holds_of_mem (by repeat (first | with_reducible exact mm0 | refine mmS ?_))) Asks.nil)))) (faddq_con (g1.mono (by omega)) (g3.mono (by omega))) rfl ca21 ⟨rfl, rfl, rfl⟩ ?_
          exact fun v φo hP => JL_nil (JE_stepC φo rfl hP (fun p hp => mapB_l hp) (fun p hp => mapB_r (ss0 p hp))))), OblS_V (fun vals ex ψ => (by
          refine JL_normQ ⟨30, [(17, _), (18, _), (19, _), (20, _), (21, _), (22, _), (23, _), (24, _), (25, _), (26, _), (27, _)], _⟩ (_ :: _ :: _ :: _ :: _ :: _ :: _ :: _ :: ψ) rfl rfl ?_
          refine JL_move rfl ?_
          exact JL_nil (JE_stepV rfl ss0))), OblS_V (fun vals ex ψ => (by
          refine JL_normQ ⟨30, [(17, _), (18, _), (19, _), (20, _), (21, _), (22, _), (23, _), (24, _), (25, _), (26, _), (27, _)], _⟩ (_ :: _ :: _ :: _ :: _ :: _ :: _ :: _ :: ψ) rfl rfl ?_
          refine JL_fieldAddr fo28_1 rfl ?_
          exact JL_nil (JE_stepV rfl ss0))), OblS_V (fun vals ex ψ => (by
          refine JL_normQ ⟨30, [(17, _), (18, _), (19, _), (20, _), (21, _), (22, _), (23, _), (24, _), (25, _), (26, _), (27, _)], _⟩ (_ :: _ :: _ :: _ :: _ :: _ :: _ :: _ :: ψ) rfl rfl ?_
          refine JL_loadA (vs := [_, _, _]) 0 ty26 rfl rfl ⟨rfl, rfl, rfl, trivial⟩ ?_
          exact JL_nil (JE_stepV rfl ss0))), OblS_V (fun vals ex ψ => (by
          refine JL_normQ ⟨30, [(17, _), (18, _), (19, _), (20, _), (21, _), (22, _), (23, _), (24, _), (25, _), (26, _), (27, _)], _⟩ (_ :: _ :: _ :: _ :: _ :: _ :: _ :: _ :: ψ) rfl rfl ?_
          refine JL_fieldAddr fo28_1 rfl ?_
          exact JL_nil (JE_stepV rfl ss0))), OblS_V (fun vals ex ψ => (by
          refine JL_normQ ⟨30, [(17, _), (18, _), (19, _), (20, _), (21, _), (22, _), (23, _), (24, _), (25, _), (26, _), (27, _)], _⟩ (_ :: _ :: _ :: _ :: _ :: _ :: _ :: _ :: ψ) rfl rfl ?_
          refine JL_loadA (vs := [_, _, _]) 1 ty26 rfl rfl ⟨rfl, rfl, rfl, trivial⟩ ?_
          exact JL_nil (JE_stepV rfl ss0))), trivial⟩ (by kernel_rfl) (fun vals bs => ?_)
      refine JL_normL [_, _, _, _] ⟨30, [(17, _), (18, _), (19, _), (20, _), (21, _), (22, _), (23, _), (24, _), (25, _), (26, _), (27, _)], _⟩ [box _ _ [_, _, _, _, _, _], box _ _ [_, _, _, _, _, _], box _ _ [_, _, _, _, _, _]] [_, _, _, _, _, _, _, _, _] rfl rfl rfl rfl ?_
      generalize vals (0 + 1 + 1 + 1 + 1 + 1) = x22
      refine JL_usePost mm0 (fun φo hP => ?_)
      obtain ⟨ad22, cp22, be22, ce22, rfl, rfl⟩ := hP
      refine JL_norm _ [box _ _ [_, _, _, _, _, _], box _ _ [_, _, _, _, _, _], box _ _ [_, _, _, _, _, _]] [_, _, _, _, _, _, _, _, _, _, _] rfl rfl rfl ?_
      refine JL_callF' (Asks.cons (holds_of_mem (by repeat (first | with_reducible exact mm0 | refine mmS ?_))) (Asks.cons (holds_of_mem (by repeat (first | with_reducible exact mm0 | refine mmS ?_))) (Asks.cons (holds_of_mem (by repeat (first | with_reducible exact mm0 | refine mmS ?_))) (Asks.cons (holds_of_mem (by repeat (first | with_reducible exact mm0 | refine mmS ?_))) Asks.nil)))) (faddq_con (g2.mono (by omega)) (g4.mono (by omega))) rfl ca21 ⟨rfl, rfl, rfl⟩ ?_
      rintro _ _ ⟨ad28, cp28, be28, ce28, rfl, rfl⟩
      refine JL_build (cs := [_, _, _, _, _, _]) [(0, [_, _, _]), (1, [_, _, _])] st28 ⟨⟨rfl, _, rfl, rfl⟩, ⟨rfl, _, rfl, rfl⟩, rfl⟩ rfl ?_
      refine JL_store (vs := [_, _, _, _, _, _]) 2 ty28 rfl rfl rfl (AllOne.cons rfl (AllOne.cons rfl (AllOne.cons rfl (AllOne.cons rfl (AllOne.cons rfl (AllOne.cons rfl AllOne.nil)))))) rfl (Nat.le_of_ble_eq_true rfl) ?_
      refine JL_assign rfl ?_
      refine JL_done_up 30 [box _ _ [_, _, _, _, _, _], box _ _ [_, _, _, _, _, _], box _ _ [_, _, _, _, _, _]] [_, _, _, _, _, _, _, _, _, _, _, _, _] rfl rfl (by simp only [upd_pend, upd_base, flatP, updV_zero, updV_succ]; rfl) rfl rfl ?_
      refine JC_ret ?_
      have hv : v2 q1 q2 q3 q4 = true := by unfold v2; rw [h9, h13]; rfl
      refine JE_ret (vs := [_, _]) [vCells ad22 (u32s (fnum (some (q1 + q3)))), vCells be22 (u32s (fden (some (q1 + q3)))), vCells ad28 (u32s (fnum (some (q2 + q4)))), vCells be28 (u32s (fden (some (q2 + q4))))] Tryd.results29 ⟨RV.cell (vs := [_, _, _, _, _, _]) 2 ty28 rfl rfl ⟨rfl, rfl, rfl, rfl, rfl, rfl, trivial⟩, rfl, rfl⟩ ?_ ?_
      · exact ⟨ad22, cp22, be22, ce22, ad28, cp28, be28, ce28, by rw [hv]; rfl, by rw [hv]; rfl⟩
      · exact (all_cons (by repeat (first | with_reducible exact mm0 | refine mmS ?_)) (all_cons (by repeat (first | with_reducible exact mm0 | refine mmS ?_)) (all_cons (by repeat (first | with_reducible exact mm0 | refine mmS ?_)) (all_cons (by repeat (first | with_reducible exact mm0 | refine mmS ?_)) all_nil))))
    · refine JL_guard_yes rfl rfl ?_
      refine JL_not rfl ?_
      rw [Bool.not_false]
      refine JL_pick_f rfl rfl ?_
      refine JL_done_up 30 [box _ _ [_, _, _, _, _, _], box _ _ [_, _, _, _, _, _], box _ _ [_, _, _, _, _, _]] [_, _, _, _, _, _, _, _] rfl rfl (by simp only [upd_pend, upd_base, flatP, updV_zero, updV_succ]; rfl) rfl rfl ?_
      refine JC_true rfl ?_
      refine JC_seq ?_
      refine JC_region ?_
      refine JL_build (cs := [_, _, _, _, _, _]) [] st28 rfl rfl ?_
      refine JL_store (vs := [_, _, _, _, _, _]) 2 ty28 rfl rfl rfl (AllOne.cons rfl (AllOne.cons rfl (AllOne.cons rfl (AllOne.cons rfl (AllOne.cons rfl (AllOne.cons rfl AllOne.nil)))))) rfl (Nat.le_of_ble_eq_true rfl) ?_
      refine JL_assign rfl ?_
      refine JL_done_up 30 [box _ _ [_, _, _, _, _, _], box _ _ [_, _, _, _, _, _], box _ _ [_, _, _, _, _, _]] [_, _, _, _, _, _, _, _] rfl rfl (by simp only [upd_pend, upd_base, flatP, updV_zero, updV_succ]; rfl) rfl rfl ?_
      refine JC_ret ?_
      refine JE_then_ret ?_
      have hv : v2 q1 q2 q3 q4 = false := by unfold v2; first | (rw [h9]; rfl) | (rw [h13, Bool.and_false])
      refine JE_nilView ?_
      refine JE_ret (vs := [_, _]) [vCells none (u32s []), vCells none (u32s []), vCells none (u32s []), vCells none (u32s [])] Tryd.results29 ⟨RV.cell (vs := [_, _, _, _, _, _]) 2 ty28 rfl rfl ⟨rfl, rfl, rfl, rfl, rfl, rfl, trivial⟩, rfl, rfl⟩ ?_ ?_
      · exact ⟨none, 0, none, 0, none, 0, none, 0, by rw [hv]; rfl, by rw [hv]; rfl⟩
      · exact (all_cons (by repeat (first | with_reducible exact mm0 | refine mmS ?_)) (all_cons (by repeat (first | with_reducible exact mm0 | refine mmS ?_)) (all_cons (by repeat (first | with_reducible exact mm0 | refine mmS ?_)) (all_cons (by repeat (first | with_reducible exact mm0 | refine mmS ?_)) all_nil))))
  · refine JL_not rfl ?_
    rw [Bool.not_false]
    refine JL_move rfl ?_
    refine JL_guard_no rfl rfl ?_
    refine JL_guard_no rfl rfl ?_
    refine JL_guard_no rfl rfl ?_
    refine JL_pick_t rfl rfl ?_
    refine JL_done_up 30 [box _ _ [_, _, _, _, _, _], box _ _ [_, _, _, _, _, _], box _ _ [_, _, _, _, _, _]] [_, _, _, _, _, _, _, _] rfl rfl (by simp only [upd_pend, upd_base, flatP, updV_zero, updV_succ]; rfl) rfl rfl ?_
    refine JC_true rfl ?_
    refine JC_seq ?_
    refine JC_region ?_
    refine JL_build (cs := [_, _, _, _, _, _]) [] st28 rfl rfl ?_
    refine JL_store (vs := [_, _, _, _, _, _]) 2 ty28 rfl rfl rfl (AllOne.cons rfl (AllOne.cons rfl (AllOne.cons rfl (AllOne.cons rfl (AllOne.cons rfl (AllOne.cons rfl AllOne.nil)))))) rfl (Nat.le_of_ble_eq_true rfl) ?_
    refine JL_assign rfl ?_
    refine JL_done_up 30 [box _ _ [_, _, _, _, _, _], box _ _ [_, _, _, _, _, _], box _ _ [_, _, _, _, _, _]] [_, _, _, _, _, _, _, _] rfl rfl (by simp only [upd_pend, upd_base, flatP, updV_zero, updV_succ]; rfl) rfl rfl ?_
    refine JC_ret ?_
    refine JE_then_ret ?_
    have hv : v2 q1 q2 q3 q4 = false := by unfold v2; first | (rw [h9]; rfl) | (rw [h13, Bool.and_false])
    refine JE_nilView ?_
    refine JE_ret (vs := [_, _]) [vCells none (u32s []), vCells none (u32s []), vCells none (u32s []), vCells none (u32s [])] Tryd.results29 ⟨RV.cell (vs := [_, _, _, _, _, _]) 2 ty28 rfl rfl ⟨rfl, rfl, rfl, rfl, rfl, rfl, trivial⟩, rfl, rfl⟩ ?_ ?_
    · exact ⟨none, 0, none, 0, none, 0, none, 0, by rw [hv]; rfl, by rw [hv]; rfl⟩
    · exact (all_cons (by repeat (first | with_reducible exact mm0 | refine mmS ?_)) (all_cons (by repeat (first | with_reducible exact mm0 | refine mmS ?_)) (all_cons (by repeat (first | with_reducible exact mm0 | refine mmS ?_)) (all_cons (by repeat (first | with_reducible exact mm0 | refine mmS ?_)) all_nil))))

theorem ibothM_con {s1 : Bool} {ad1 : Option Addr} {n1 c1 : Nat} {L1 : List Nat} {be1 : Option Addr} {m1 e1 : Nat} {M1 : List Nat} {q1 : Rat} (g1 : FIn s1 n1 L1 m1 M1 q1 1000000) {s2 : Bool} {ad2 : Option Addr} {n2 c2 : Nat} {L2 : List Nat} {be2 : Option Addr} {m2 e2 : Nat} {M2 : List Nat} {q2 : Rat} (g2 : FIn s2 n2 L2 m2 M2 q2 1000000) {s3 : Bool} {ad3 : Option Addr} {n3 c3 : Nat} {L3 : List Nat} {be3 : Option Addr} {m3 e3 : Nat} {M3 : List Nat} {q3 : Rat} (g3 : FIn s3 n3 L3 m3 M3 q3 1000000) {s4 : Bool} {ad4 : Option Addr} {n4 c4 : Nat} {L4 : List Nat} {be4 : Option Addr} {m4 e4 : Nat} {M4 : List Nat} {q4 : Rat} (g4 : FIn s4 n4 L4 m4 M4 q4 1000000) :
    ConF Tryd.prog 29 [.agg #[.bool s1, .slice ad1 n1 c1, .slice be1 m1 e1, .bool s2, .slice ad2 n2 c2, .slice be2 m2 e2], .agg #[.bool s3, .slice ad3 n3 c3, .slice be3 m3 e3, .bool s4, .slice ad4 n4 c4, .slice be4 m4 e4], .func (.func 22) #[] #[]] [vCells ad1 (u32s L1), vCells be1 (u32s M1), vCells ad2 (u32s L2), vCells be2 (u32s M2), vCells ad3 (u32s L3), vCells be3 (u32s M3), vCells ad4 (u32s L4), vCells be4 (u32s M4)]
      (SOE (onv (v2 q1 q2 q3 q4) (q1 * q3)) (onv (v2 q1 q2 q3 q4) (q2 * q4)) (.int .i64 (er1 (v2 q1 q2 q3 q4)))) := by
  refine ConF_of Tryd.func29 rfl 30 _ rfl rfl ?_
  intro w0
  refine JC_norm ⟨30, [], [_, _, _, _, _, _, _, _, _, _, _, _, _, _, _, _, _, _, _, _, _, _, _, _, _, _, _, _, _, _]⟩ [] [_, _, _, _, _, _, _, _] rfl rfl rfl ?_
  refine JC_seq ?_
  refine JC_region ?_
  refine JL_box rfl rfl (fun b3 => ?_)
  refine JL_box rfl rfl (fun b4 => ?_)
  refine JL_alloc z28 (fun b6 => ?_)
  refine JL_assign rfl ?_
  refine JL_done_up 30 [box _ _ [_, _, _, _, _, _], box _ _ [_, _, _, _, _, _], box _ _ [_, _, _, _, _, _]] [_, _, _, _, _, _, _, _] rfl rfl (by simp only [upd_pend, upd_base, flatP, updV_zero, updV_succ]; rfl) rfl rfl ?_
  refine JC_seq ?_
  refine JC_seq ?_
  refine JC_region ?_
  refine JL_loadA (vs := [_, _, _, _, _, _]) 0 ty28 rfl rfl ⟨rfl, rfl, rfl, rfl, rfl, rfl, trivial⟩ ?_
  refine JL_callF' (Asks.cons (holds_of_mem (by repeat (first | with_reducible exact mm0 | refine mmS ?_))) (Asks.cons (holds_of_mem (by repeat (first | with_reducible exact mm0 | refine mmS ?_))) (Asks.cons (holds_of_mem (by repeat (first | with_reducible exact mm0 | refine mmS ?_))) (Asks.cons (holds_of_mem (by repeat (first | with_reducible exact mm0 | refine mmS ?_))) Asks.nil)))) (ivalid_con g1 g2) rfl ca31 ⟨rfl, rfl⟩ ?_
  rintro _ _ ⟨rfl, rfl⟩
  refine JL_splitV (fun h9 => ?_) (fun h9 => ?_)
  · refine JL_not rfl ?_
    rw [Bool.not_true]
    refine JL_move rfl ?_
    refine JL_guard_yes rfl rfl ?_
    refine JL_loadA (vs := [_, _, _, _, _, _]) 1 ty28 rfl rfl ⟨rfl, rfl, rfl, rfl, rfl, rfl, trivial⟩ ?_
    refine JL_guard_yes rfl rfl ?_
    refine JL_callF' (Asks.cons (holds_of_mem (by repeat (first | with_reducible exact mm0 | refine mmS ?_))) (Asks.cons (holds_of_mem (by repeat (first | with_reducible exact mm0 | refine mmS ?_))) (Asks.cons (holds_of_mem (by repeat (first | with_reducible exact mm0 | refine mmS ?_))) (Asks.cons (holds_of_mem (by repeat (first | with_reducible exact mm0 | refine mmS ?_))) Asks.nil)))) (ivalid_con g3 g4) rfl ca31 ⟨rfl, rfl⟩ ?_
    rintro _ _ ⟨rfl, rfl⟩
    refine JL_splitV (fun h13 => ?_) (fun h13 => ?_)
    · refine JL_guard_yes rfl rfl ?_
      refine JL_not rfl ?_
      rw [Bool.not_true]
      refine JL_pick_f rfl rfl ?_
      refine JL_done_up 30 [box _ _ [_, _, _, _, _, _], box _ _ [_, _, _, _, _, _], box _ _ [_, _, _, _, _, _]] [_, _, _, _, _, _, _, _] rfl rfl (by simp only [upd_pend, upd_base, flatP, updV_zero, updV_succ]; rfl) rfl rfl ?_
      refine JC_false rfl ?_
      refine JC_skip ?_
      refine JE_then ?_
      refine JC_seq ?_
      refine JC_drawT mixed 11 [spV 17 [] _, spV 18 [] _, spV 19 [1] _, spV 20 [] _, spV 21 [3] _, spC 22 [0, 2, 4] _, spV 23 [] _, spV 24 [] _, spV 25 [7] _, spV 26 [] _, spV 27 [9] _] ⟨OblS_V (fun vals ex ψ => (by
          refine JL_normQ ⟨30, [(17, _), (18, _), (19, _), (20, _), (21, _), (22, _), (23, _), (24, _), (25, _), (26, _), (27, _)], _⟩ (_ :: _ :: _ :: _ :: _ :: _ :: _ :: _ :: ψ) rfl rfl ?_
          refine JL_move rfl ?_
          exact JL_nil (JE_stepV rfl ss0))), OblS_V (fun vals ex ψ => (by
          refine JL_normQ ⟨30, [(17, _), (18, _), (19, _), (20, _), (21, _), (22, _), (23, _), (24, _), (25, _), (26, _), (27, _)], _⟩ (_ :: _ :: _ :: _ :: _ :: _ :: _ :: _ :: ψ) rfl rfl ?_
          refine JL_fieldAddr fo28_0 rfl ?_
          exact JL_nil (JE_stepV rfl ss0))), OblS_V (fun vals ex ψ => (by
          refine JL_normQ ⟨30, [(17, _), (18, _), (19, _), (20, _), (21, _), (22, _), (23, _), (24, _), (25, _), (26, _), (27, _)], _⟩ (_ :: _ :: _ :: _ :: _ :: _ :: _ :: _ :: ψ) rfl rfl ?_
          refine JL_loadA (vs := [_, _, _]) 0 ty26 rfl rfl ⟨rfl, rfl, rfl, trivial⟩ ?_
          exact JL_nil (JE_stepV rfl ss0))), OblS_V (fun vals ex ψ => (by
          refine JL_normQ ⟨30, [(17, _), (18, _), (19, _), (20, _), (21, _), (22, _), (23, _), (24, _), (25, _), (26, _), (27, _)], _⟩ (_ :: _ :: _ :: _ :: _ :: _ :: _ :: _ :: ψ) rfl rfl ?_
          refine JL_fieldAddr fo28_0 rfl ?_
          exact JL_nil (JE_stepV rfl ss0))), OblS_V (fun vals ex ψ => (by
          refine JL_normQ ⟨30, [(17, _), (18, _), (19, _), (20, _), (21, _), (22, _), (23, _), (24, _), (25, _), (26, _), (27, _)], _⟩ (_ :: _ :: _ :: _ :: _ :: _ :: _ :: _ :: ψ) rfl rfl ?_
          refine JL_loadA (vs := [_, _, _]) 1 ty26 rfl rfl ⟨rfl, rfl, rfl, trivial⟩ ?_
          exact JL_nil (JE_stepV rfl ss0))), OblS_C (fun vals ex ψ => (by
          refine JL_normQ ⟨30, [(17, _), (18, _), (19, _), (20, _), (21, _), (22, _), (23, _), (24, _), (25, _), (26, _), (27, _)], _⟩ (_ :: _ :: _ :: _ :: _ :: _ :: _ :: _ :: ψ) rfl rfl ?_
          refine JL_callF' (Asks.cons (holds_of_mem (by repeat (first | with_reducible exact mm0 | refine mmS ?_))) (Asks.cons (holds_of_mem (by repeat (first | with_reducible exact mm0 | refine mmS ?_))) (Asks.cons (holds_of_mem (by repeat (first | with_reducible exact mm0 | refine mmS ?_))) (Asks.cons (holds_of_mem (by repeat (first | with_reducible exact mm0 | refine mmS ?_))) Asks.nil)))) (fmulq_con (g1.mono (by omega)) (g3.mono (by omega))) rfl ca22 ⟨rfl, rfl, rfl⟩ ?_
          exact fun v φo hP => JL_nil (JE_stepC φo rfl hP (fun p hp => mapB_l hp) (fun p hp => mapB_r (ss0 p hp))))), OblS_V (fun vals ex ψ => (by
          refine JL_normQ ⟨30, [(17, _), (18, _), (19, _), (20, _), (21, _), (22, _), (23, _), (24, _), (25, _), (26, _), (27, _)], _⟩ (_ :: _ :: _ :: _ :: _ :: _ :: _ :: _ :: ψ) rfl rfl ?_
          refine JL_move rfl ?_
          exact JL_nil (JE_stepV rfl ss0))), OblS_V (fun vals ex ψ => (by
          refine JL_normQ ⟨30, [(17, _), (18, _), (19, _), (20, _), (21, _), (22, _), (23, _), (24, _), (25, _), (26, _), (27, _)], _⟩ (_ :: _ :: _ :: _ :: _ :: _ :: _ :: _ :: ψ) rfl rfl ?_
          refine JL_fieldAddr fo28_1 rfl ?_
          exact JL_nil (JE_stepV rfl ss0))), OblS_V (fun vals ex ψ => (by
          refine JL_normQ ⟨30, [(17, _), (18, _), (19, _), (20, _), (21, _), (22, _), (23, _), (24, _), (25, _), (26, _), (27, _)], _⟩ (_ :: _ :: _ :: _ :: _ :: _ :: _ :: _ :: ψ) rfl rfl ?_
          refine JL_loadA (vs := [_, _, _]) 0 ty26 rfl rfl ⟨rfl, rfl, rfl, trivial⟩ ?_
          exact JL_nil (JE_stepV rfl ss0))), OblS_V (fun vals ex ψ => (by
          refine JL_normQ ⟨30, [(17, _), (18, _), (19, _), (20, _), (21, _), (22, _), (23, _), (24, _), (25, _), (26, _), (27, _)], _⟩ (_ :: _ :: _ :: _ :: _ :: _ :: _ :: _ :: ψ) rfl rfl ?_
          refine JL_fieldAddr fo28_1 rfl ?_
          exact JL_nil (JE_stepV rfl ss0))), OblS_V (fun vals ex ψ => (by
          refine JL_normQ ⟨30, [(17, _), (18, _), (19, _), (20, _), (21, _), (22, _), (23, _), (24, _), (25, _), (26, _), (27, _)], _⟩ (_ :: _ :: _ :: _ :: _ :: _ :: _ :: _ :: ψ) rfl rfl ?_
          refine JL_loadA (vs := [_, _, _]) 1 ty26 rfl rfl ⟨rfl, rfl, rfl, trivial⟩ ?_
          exact JL_nil (JE_stepV rfl ss0))), trivial⟩ (by kernel_rfl) (fun vals bs => ?_)
      refine JL_normL [_, _, _, _] ⟨30, [(17, _), (18, _), (19, _), (20, _), (21, _), (22, _), (23, _), (24, _), (25, _), (26, _), (27, _)], _⟩ [box _ _ [_, _, _, _, _, _], box _ _ [_, _, _, _, _, _], box _ _ [_, _, _, _, _, _]] [_, _, _, _, _, _, _, _, _] rfl rfl rfl rfl ?_
      generalize vals (0 + 1 + 1 + 1 + 1 + 1) = x22
      refine JL_usePost mm0 (fun φo hP => ?_)
      obtain ⟨ad22, cp22, be22, ce22, rfl, rfl⟩ := hP
      refine JL_norm _ [box _ _ [_, _, _, _, _, _], box _ _ [_, _, _, _, _, _], box _ _ [_, _, _, _, _, _]] [_, _, _, _, _, _, _, _, _, _, _] rfl rfl rfl ?_
      refine JL_callF' (Asks.cons (holds_of_mem (by repeat (first | with_reducible exact mm0 | refine mmS ?_))) (Asks.cons (holds_of_mem (by repeat (first | with_reducible exact mm0 | refine mmS ?_))) (Asks.cons (holds_of_mem (by repeat (first | with_reducible exact mm0 | refine mmS ?_))) (Asks.cons (holds_of_mem (by repeat (first | with_reducible exact mm0 | refine mmS ?_))) Asks.nil)))) (fmulq_con (g2.mono (by omega)) (g4.mono (by omega))) rfl ca22 ⟨rfl, rfl, rfl⟩ ?_
      rintro _ _ ⟨ad28, cp28, be28, ce28, rfl, rfl⟩
      refine JL_build (cs := [_, _, _, _, _, _]) [(0, [_, _, _]), (1, [_, _, _])] st28 ⟨⟨rfl, _, rfl, rfl⟩, ⟨rfl, _, rfl, rfl⟩, rfl⟩ rfl ?_
      refine JL_store (vs := [_, _, _, _, _, _]) 2 ty28 rfl rfl rfl (AllOne.cons rfl (AllOne.cons rfl (AllOne.cons rfl (AllOne.cons rfl (AllOne.cons rfl (AllOne.cons rfl AllOne.nil)))))) rfl (Nat.le_of_ble_eq_true rfl) ?_
      refine JL_assign rfl ?_
      refine JL_done_up 30 [box _ _ [_, _, _, _, _, _], box _ _ [_, _, _, _, _, _], box _ _ [_, _, _, _, _, _]] [_, _, _, _, _, _, _, _, _, _, _, _, _] rfl rfl (by simp only [upd_pend, upd_base, flatP, updV_zero, updV_succ]; rfl) rfl rfl ?_
      refine JC_ret ?_
      have hv : v2 q1 q2 q3 q4 = true := by unfold v2; rw [h9, h13]; rfl
      refine JE_ret (vs := [_, _]) [vCells ad22 (u32s (fnum (some (q1 * q3)))), vCells be22 (u32s (fden (some (q1 * q3)))), vCells ad28 (u32s (fnum (some (q2 * q4)))), vCells be28 (u32s (fden (some (q2 * q4))))] Tryd.results29 ⟨RV.cell (vs := [_, _, _, _, _, _]) 2 ty28 rfl rfl ⟨rfl, rfl, rfl, rfl, rfl, rfl, trivial⟩, rfl, rfl⟩ ?_ ?_
      · exact ⟨ad22, cp22, be22, ce22, ad28, cp28, be28, ce28, by rw [hv]; rfl, by rw [hv]; rfl⟩
      · exact (all_cons (by repeat (first | with_reducible exact mm0 | refine mmS ?_)) (all_cons (by repeat (first | with_reducible exact mm0 | refine mmS ?_)) (all_cons (by repeat (first | with_reducible exact mm0 | refine mmS ?_)) (all_cons (by repeat (first | with_reducible exact mm0 | refine mmS ?_)) all_nil))))
    · refine JL_guard_yes rfl rfl ?_
      refine JL_not rfl ?_
      rw [Bool.not_false]
      refine JL_pick_f rfl rfl ?_
      refine JL_done_up 30 [box _ _ [_, _, _, _, _, _], box _ _ [_, _, _, _, _, _], box _ _ [_, _, _, _, _, _]] [_, _, _, _, _, _, _, _] rfl rfl (by simp only [upd_pend, upd_base, flatP, updV_zero, updV_succ]; rfl) rfl rfl ?_
      refine JC_true rfl ?_
      refine JC_seq ?_
      refine JC_region ?_
      refine JL_build (cs := [_, _, _, _, _, _]) [] st28 rfl rfl ?_
      refine JL_store (vs := [_, _, _, _, _, _]) 2 ty28 rfl rfl rfl (AllOne.cons rfl (AllOne.cons rfl (AllOne.cons rfl (AllOne.cons rfl (AllOne.cons rfl (AllOne.cons rfl AllOne.nil)))))) rfl (Nat.le_of_ble_eq_true rfl) ?_
      refine JL_assign rfl ?_
      refine JL_done_up 30 [box _ _ [_, _, _, _, _, _], box _ _ [_, _, _, _, _, _], box _ _ [_, _, _, _, _, _]] [_, _, _, _, _, _, _, _] rfl rfl (by simp only [upd_pend, upd_base, flatP, updV_zero, updV_succ]; rfl) rfl rfl ?_
      refine JC_ret ?_
      refine JE_then_ret ?_
      have hv : v2 q1 q2 q3 q4 = false := by unfold v2; first | (rw [h9]; rfl) | (rw [h13, Bool.and_false])
      refine JE_nilView ?_
      refine JE_ret (vs := [_, _]) [vCells none (u32s []), vCells none (u32s []), vCells none (u32s []), vCells none (u32s [])] Tryd.results29 ⟨RV.cell (vs := [_, _, _, _, _, _]) 2 ty28 rfl rfl ⟨rfl, rfl, rfl, rfl, rfl, rfl, trivial⟩, rfl, rfl⟩ ?_ ?_
      · exact ⟨none, 0, none, 0, none, 0, none, 0, by rw [hv]; rfl, by rw [hv]; rfl⟩
      · exact (all_cons (by repeat (first | with_reducible exact mm0 | refine mmS ?_)) (all_cons (by repeat (first | with_reducible exact mm0 | refine mmS ?_)) (all_cons (by repeat (first | with_reducible exact mm0 | refine mmS ?_)) (all_cons (by repeat (first | with_reducible exact mm0 | refine mmS ?_)) all_nil))))
  · refine JL_not rfl ?_
    rw [Bool.not_false]
    refine JL_move rfl ?_
    refine JL_guard_no rfl rfl ?_
    refine JL_guard_no rfl rfl ?_
    refine JL_guard_no rfl rfl ?_
    refine JL_pick_t rfl rfl ?_
    refine JL_done_up 30 [box _ _ [_, _, _, _, _, _], box _ _ [_, _, _, _, _, _], box _ _ [_, _, _, _, _, _]] [_, _, _, _, _, _, _, _] rfl rfl (by simp only [upd_pend, upd_base, flatP, updV_zero, updV_succ]; rfl) rfl rfl ?_
    refine JC_true rfl ?_
    refine JC_seq ?_
    refine JC_region ?_
    refine JL_build (cs := [_, _, _, _, _, _]) [] st28 rfl rfl ?_
    refine JL_store (vs := [_, _, _, _, _, _]) 2 ty28 rfl rfl rfl (AllOne.cons rfl (AllOne.cons rfl (AllOne.cons rfl (AllOne.cons rfl (AllOne.cons rfl (AllOne.cons rfl AllOne.nil)))))) rfl (Nat.le_of_ble_eq_true rfl) ?_
    refine JL_assign rfl ?_
    refine JL_done_up 30 [box _ _ [_, _, _, _, _, _], box _ _ [_, _, _, _, _, _], box _ _ [_, _, _, _, _, _]] [_, _, _, _, _, _, _, _] rfl rfl (by simp only [upd_pend, upd_base, flatP, updV_zero, updV_succ]; rfl) rfl rfl ?_
    refine JC_ret ?_
    refine JE_then_ret ?_
    have hv : v2 q1 q2 q3 q4 = false := by unfold v2; first | (rw [h9]; rfl) | (rw [h13, Bool.and_false])
    refine JE_nilView ?_
    refine JE_ret (vs := [_, _]) [vCells none (u32s []), vCells none (u32s []), vCells none (u32s []), vCells none (u32s [])] Tryd.results29 ⟨RV.cell (vs := [_, _, _, _, _, _]) 2 ty28 rfl rfl ⟨rfl, rfl, rfl, rfl, rfl, rfl, trivial⟩, rfl, rfl⟩ ?_ ?_
    · exact ⟨none, 0, none, 0, none, 0, none, 0, by rw [hv]; rfl, by rw [hv]; rfl⟩
    · exact (all_cons (by repeat (first | with_reducible exact mm0 | refine mmS ?_)) (all_cons (by repeat (first | with_reducible exact mm0 | refine mmS ?_)) (all_cons (by repeat (first | with_reducible exact mm0 | refine mmS ?_)) (all_cons (by repeat (first | with_reducible exact mm0 | refine mmS ?_)) all_nil))))

theorem iplus_con {s1 : Bool} {ad1 : Option Addr} {n1 c1 : Nat} {L1 : List Nat} {be1 : Option Addr} {m1 e1 : Nat} {M1 : List Nat} {q1 : Rat} (g1 : FIn s1 n1 L1 m1 M1 q1 1000000) {s2 : Bool} {ad2 : Option Addr} {n2 c2 : Nat} {L2 : List Nat} {be2 : Option Addr} {m2 e2 : Nat} {M2 : List Nat} {q2 : Rat} (g2 : FIn s2 n2 L2 m2 M2 q2 1000000) {s3 : Bool} {ad3 : Option Addr} {n3 c3 : Nat} {L3 : List Nat} {be3 : Option Addr} {m3 e3 : Nat} {M3 : List Nat} {q3 : Rat} (g3 : FIn s3 n3 L3 m3 M3 q3 1000000) {s4 : Bool} {ad4 : Option Addr} {n4 c4 : Nat} {L4 : List Nat} {be4 : Option Addr} {m4 e4 : Nat} {M4 : List Nat} {q4 : Rat} (g4 : FIn s4 n4 L4 m4 M4 q4 1000000) :
    ConF Tryd.prog 11 [.agg #[.bool s1, .slice ad1 n1 c1, .slice be1 m1 e1, .bool s2, .slice ad2 n2 c2, .slice be2 m2 e2], .agg #[.bool s3, .slice ad3 n3 c3, .slice be3 m3 e3, .bool s4, .slice ad4 n4 c4, .slice be4 m4 e4]] [vCells ad1 (u32s L1), vCells be1 (u32s M1), vCells ad2 (u32s L2), vCells be2 (u32s M2), vCells ad3 (u32s L3), vCells be3 (u32s M3), vCells ad4 (u32s L4), vCells be4 (u32s M4)]
      (SOE (onv (v2 q1 q2 q3 q4) (q1 + q3)) (onv (v2 q1 q2 q3 q4) (q2 + q4)) (.int .i64 (er1 (v2 q1 q2 q3 q4)))) := by
  refine ConF_of Tryd.func11 rfl 11 _ rfl rfl ?_
  intro w0
  refine JC_norm ⟨11, [], [_, _, _, _, _, _, _, _, _, _, _]⟩ [] [_, _, _, _, _, _, _, _] rfl rfl rfl ?_
  refine JC_seq ?_
  refine JC_region ?_
  refine JL_box rfl rfl (fun b2 => ?_)
  refine JL_box rfl rfl (fun b3 => ?_)
  refine JL_alloc z28 (fun b4 => ?_)
  refine JL_assign rfl ?_
  refine JL_done_up 11 [box _ _ [_, _, _, _, _, _], box _ _ [_, _, _, _, _, _], box _ _ [_, _, _, _, _, _]] [_, _, _, _, _, _, _, _] rfl rfl (by simp only [upd_pend, upd_base, flatP, updV_zero, updV_succ]; rfl) rfl rfl ?_
  refine JC_seq ?_
  refine JC_region ?_
  refine JL_loadA (vs := [_, _, _, _, _, _]) 0 ty28 rfl rfl ⟨rfl, rfl, rfl, rfl, rfl, rfl, trivial⟩ ?_
  refine JL_loadA (vs := [_, _, _, _, _, _]) 1 ty28 rfl rfl ⟨rfl, rfl, rfl, rfl, rfl, rfl, trivial⟩ ?_
  refine JL_callF' (Asks.cons (holds_of_mem (by repeat (first | with_reducible exact mm0 | refine mmS ?_))) (Asks.cons (holds_of_mem (by repeat (first | with_reducible exact mm0 | refine mmS ?_))) (Asks.cons (holds_of_mem (by repeat (first | with_reducible exact mm0 | refine mmS ?_))) (Asks.cons (holds_of_mem (by repeat (first | with_reducible exact mm0 | refine mmS ?_))) (Asks.cons (holds_of_mem (by repeat (first | with_reducible exact mm0 | refine mmS ?_))) (Asks.cons (holds_of_mem (by repeat (first | with_reducible exact mm0 | refine mmS ?_))) (Asks.cons (holds_of_mem (by repeat (first | with_reducible exact mm0 | refine mmS ?_))) (Asks.cons (holds_of_mem (by repeat (first | with_reducible exact mm0 | refine mmS ?_))) Asks.nil)))))))) (ibothA_con g1 g2 g3 g4) rfl ca29 ⟨rfl, rfl, rfl, rfl⟩ ?_
  rintro _ _ ⟨ad8, cp8, be8, ce8, af8, cq8, bg8, cf8, rfl, rfl⟩
  refine JL_extract rfl rfl ?_
  refine JL_extract rfl rfl ?_
  refine JL_store (vs := [_, _, _, _, _, _]) 2 ty28 rfl rfl rfl (AllOne.cons rfl (AllOne.cons rfl (AllOne.cons rfl (AllOne.cons rfl (AllOne.cons rfl (AllOne.cons rfl AllOne.nil)))))) rfl (Nat.le_of_ble_eq_true rfl) ?_
  refine JL_assign rfl ?_
  refine JL_done_up 11 [box _ _ [_, _, _, _, _, _], box _ _ [_, _, _, _, _, _], box _ _ [_, _, _, _, _, _]] [_, _, _, _, _, _, _, _, _, _, _, _] rfl rfl (by simp only [upd_pend, upd_base, flatP, updV_zero, updV_succ]; rfl) rfl rfl ?_
  refine JC_ret ?_
  refine JE_ret (vs := [_, _]) [vCells ad8 (u32s (fnum (onv (v2 q1 q2 q3 q4) (q1 + q3)))), vCells be8 (u32s (fden (onv (v2 q1 q2 q3 q4) (q1 + q3)))), vCells af8 (u32s (fnum (onv (v2 q1 q2 q3 q4) (q2 + q4)))), vCells bg8 (u32s (fden (onv (v2 q1 q2 q3 q4) (q2 + q4))))] Tryd.results11 ⟨RV.cell (vs := [_, _, _, _, _, _]) 2 ty28 rfl rfl ⟨rfl, rfl, rfl, rfl, rfl, rfl, trivial⟩, rfl, rfl⟩ ?_ ?_
  · exact ⟨ad8, cp8, be8, ce8, af8, cq8, bg8, cf8, rfl, rfl⟩
  · exact (all_cons (by repeat (first | with_reducible exact mm0 | refine mmS ?_)) (all_cons (by repeat (first | with_reducible exact mm0 | refine mmS ?_)) (all_cons (by repeat (first | with_reducible exact mm0 | refine mmS ?_)) (all_cons (by repeat (first | with_reducible exact mm0 | refine mmS ?_)) all_nil))))

theorem itimes_con {s1 : Bool} {ad1 : Option Addr} {n1 c1 : Nat} {L1 : List Nat} {be1 : Option Addr} {m1 e1 : Nat} {M1 : List Nat} {q1 : Rat} (g1 : FIn s1 n1 L1 m1 M1 q1 1000000) {s2 : Bool} {ad2 : Option Addr} {n2 c2 : Nat} {L2 : List Nat} {be2 : Option Addr} {m2 e2 : Nat} {M2 : List Nat} {q2 : Rat} (g2 : FIn s2 n2 L2 m2 M2 q2 1000000) {s3 : Bool} {ad3 : Option Addr} {n3 c3 : Nat} {L3 : List Nat} {be3 : Option Addr} {m3 e3 : Nat} {M3 : List Nat} {q3 : Rat} (g3 : FIn s3 n3 L3 m3 M3 q3 1000000) {s4 : Bool} {ad4 : Option Addr} {n4 c4 : Nat} {L4 : List Nat} {be4 : Option Addr} {m4 e4 : Nat} {M4 : List Nat} {q4 : Rat} (g4 : FIn s4 n4 L4 m4 M4 q4 1000000) :
    ConF Tryd.prog 12 [.agg #[.bool s1, .slice ad1 n1 c1, .slice be1 m1 e1, .bool s2, .slice ad2 n2 c2, .slice be2 m2 e2], .agg #[.bool s3, .slice ad3 n3 c3, .slice be3 m3 e3, .bool s4, .slice ad4 n4 c4, .slice be4 m4 e4]] [vCells ad1 (u32s L1), vCells be1 (u32s M1), vCells ad2 (u32s L2), vCells be2 (u32s M2), vCells ad3 (u32s L3), vCells be3 (u32s M3), vCells ad4 (u32s L4), vCells be4 (u32s M4)]
      (SOE (onv (v2 q1 q2 q3 q4) (q1 * q3)) (onv (v2 q1 q2 q3 q4) (q2 * q4)) (.int .i64 (er1 (v2 q1 q2 q3 q4)))) := by
  refine ConF_of Tryd.func12 rfl 11 _ rfl rfl ?_
  intro w0
  refine JC_norm ⟨11, [], [_, _, _, _, _, _, _, _, _, _, _]⟩ [] [_, _, _, _, _, _, _, _] rfl rfl rfl ?_
  refine JC_seq ?_
  refine JC_region ?_
  refine JL_box rfl rfl (fun b2 => ?_)
  refine JL_box rfl rfl (fun b3 => ?_)
  refine JL_alloc z28 (fun b4 => ?_)
  refine JL_assign rfl ?_
  refine JL_done_up 11 [box _ _ [_, _, _, _, _, _], box _ _ [_, _, _, _, _, _], box _ _ [_, _, _, _, _, _]] [_, _, _, _, _, _, _, _] rfl rfl (by simp only [upd_pend, upd_base, flatP, updV_zero, updV_succ]; rfl) rfl rfl ?_
  refine JC_seq ?_
  refine JC_region ?_
  refine JL_loadA (vs := [_, _, _, _, _, _]) 0 ty28 rfl rfl ⟨rfl, rfl, rfl, rfl, rfl, rfl, trivial⟩ ?_
  refine JL_loadA (vs := [_, _, _, _, _, _]) 1 ty28 rfl rfl ⟨rfl, rfl, rfl, rfl, rfl, rfl, trivial⟩ ?_
  refine JL_callF' (Asks.cons (holds_of_mem (by repeat (first | with_reducible exact mm0 | refine mmS ?_))) (Asks.cons (holds_of_mem (by repeat (first | with_reducible exact mm0 | refine mmS ?_))) (Asks.cons (holds_of_mem (by repeat (first | with_reducible exact mm0 | refine mmS ?_))) (Asks.cons (holds_of_mem (by repeat (first | with_reducible exact mm0 | refine mmS ?_))) (Asks.cons (holds_of_mem (by repeat (first | with_reducible exact mm0 | refine mmS ?_))) (Asks.cons (holds_of_mem (by repeat (first | with_reducible exact mm0 | refine mmS ?_))) (Asks.cons (holds_of_mem (by repeat (first | with_reducible exact mm0 | refine mmS ?_))) (Asks.cons (holds_of_mem (by repeat (first | with_reducible exact mm0 | refine mmS ?_))) Asks.nil)))))))) (ibothM_con g1 g2 g3 g4) rfl ca29 ⟨rfl, rfl, rfl, rfl⟩ ?_
  rintro _ _ ⟨ad8, cp8, be8, ce8, af8, cq8, bg8, cf8, rfl, rfl⟩
  refine JL_extract rfl rfl ?_
  refine JL_extract rfl rfl ?_
  refine JL_store (vs := [_, _, _, _, _, _]) 2 ty28 rfl rfl rfl (AllOne.cons rfl (AllOne.cons rfl (AllOne.cons rfl (AllOne.cons rfl (AllOne.cons rfl (AllOne.cons rfl AllOne.nil)))))) rfl (Nat.le_of_ble_eq_true rfl) ?_
  refine JL_assign rfl ?_
  refine JL_done_up 11 [box _ _ [_, _, _, _, _, _], box _ _ [_, _, _, _, _, _], box _ _ [_, _, _, _, _, _]] [_, _, _, _, _, _, _, _, _, _, _, _] rfl rfl (by simp only [upd_pend, upd_base, flatP, updV_zero, updV_succ]; rfl) rfl rfl ?_
  refine JC_ret ?_
  refine JE_ret (vs := [_, _]) [vCells ad8 (u32s (fnum (onv (v2 q1 q2 q3 q4) (q1 * q3)))), vCells be8 (u32s (fden (onv (v2 q1 q2 q3 q4) (q1 * q3)))), vCells af8 (u32s (fnum (onv (v2 q1 q2 q3 q4) (q2 * q4)))), vCells bg8 (u32s (fden (onv (v2 q1 q2 q3 q4) (q2 * q4))))] Tryd.results12 ⟨RV.cell (vs := [_, _, _, _, _, _]) 2 ty28 rfl rfl ⟨rfl, rfl, rfl, rfl, rfl, rfl, trivial⟩, rfl, rfl⟩ ?_ ?_
  · exact ⟨ad8, cp8, be8, ce8, af8, cq8, bg8, cf8, rfl, rfl⟩
  · exact (all_cons (by repeat (first | with_reducible exact mm0 | refine mmS ?_)) (all_cons (by repeat (first | with_reducible exact mm0 | refine mmS ?_)) (all_cons (by repeat (first | with_reducible exact mm0 | refine mmS ?_)) (all_cons (by repeat (first | with_reducible exact mm0 | refine mmS ?_)) all_nil))))

end Go.Fw.K
