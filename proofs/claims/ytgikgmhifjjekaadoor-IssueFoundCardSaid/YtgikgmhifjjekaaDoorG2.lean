/- Walks through functions of the given program: each meets its contract. (Printed by a program of this repo.) -/
import Derived.Test.YtgikgmhifjjekaaDoorG1
import Derived.Test.YtgikgmhifjjekaaDoorProg
namespace Go.Fw.G2
open Go Go.RowKit Go.Proofs Go.Nat9 Go.Fw
attribute [local irreducible] JC JL JE
theorem ca44 : callable Tryd.prog 44 = true := by kernel_rfl
theorem ca45 : callable Tryd.prog 45 = true := by kernel_rfl
theorem ca62 : callable Tryd.prog 62 = true := by kernel_rfl
theorem fo26_0 : fOf Tryd.prog 26 0 = some 0 := by kernel_rfl
theorem fo26_1 : fOf Tryd.prog 26 1 = some 1 := by kernel_rfl
theorem fo26_2 : fOf Tryd.prog 26 2 = some 2 := by kernel_rfl
theorem ty24 : tyOf Tryd.prog 24 = some (true, 1) := by kernel_rfl
theorem ty26 : tyOf Tryd.prog 26 = some (true, 3) := by kernel_rfl
theorem ty4 : tyOf Tryd.prog 4 = some (false, 1) := by kernel_rfl
theorem z26 : zeroOf Tryd.prog 26 = some [.bool false, .slice none 0 0, .slice none 0 0] := by kernel_rfl
end Go.Fw.G2
namespace Go.Fw.K
open Go Go.RowKit Go.Proofs Go.Nat9 Go.Fw Go.Fw.G2
attribute [local irreducible] JC JL JE

theorem rnormq_con {s1 : Bool} {ad1 : Option Addr} {n1 c1 : Nat} {L1 : List Nat} {be1 : Option Addr} {m1 e1 : Nat} {M1 : List Nat} {q1 : Rat} (g1 : FIn s1 n1 L1 m1 M1 q1 10000000) :
    ConF Tryd.prog 44 [.agg #[.bool s1, .slice ad1 n1 c1, .slice be1 m1 e1]] [vCells ad1 (u32s L1), vCells be1 (u32s M1)]
      (FO (some q1)) := by
  refine ConF_of Tryd.func44 rfl 10 _ rfl rfl ?_
  intro w0
  refine JC_norm ⟨10, [], [_, _, _, _, _, _, _, _, _, _]⟩ [] [_, _] rfl rfl rfl ?_
  refine JC_seq ?_
  refine JC_region ?_
  refine JL_box rfl rfl (fun b1 => ?_)
  refine JL_alloc z26 (fun b2 => ?_)
  refine JL_done_up 10 [box _ _ [_, _, _], box _ _ [_, _, _]] [_, _] rfl rfl (by simp only [upd_pend, upd_base, flatP, updV_zero, updV_succ]; rfl) rfl rfl ?_
  refine JC_seq ?_
  refine JC_region ?_
  refine JL_fieldAddr fo26_0 rfl ?_
  refine JL_load 0 ty4 rfl rfl rfl ?_
  refine JL_fieldAddr fo26_1 rfl ?_
  refine JL_loadA (vs := [_]) 0 ty24 rfl rfl ⟨rfl, trivial⟩ ?_
  refine JL_fieldAddr fo26_2 rfl ?_
  refine JL_loadA (vs := [_]) 0 ty24 rfl rfl ⟨rfl, trivial⟩ ?_
  refine JL_callF' (Asks.cons (holds_of_mem (by repeat (first | with_reducible exact mm0 | refine mmS ?_))) (Asks.cons (holds_of_mem (by repeat (first | with_reducible exact mm0 | refine mmS ?_))) Asks.nil)) (rmade_con (g1.num.mono (by omega)) (g1.den.mono (by omega)) g1.eq) rfl ca62 ⟨rfl, rfl, rfl, rfl⟩ ?_
  rintro _ _ ⟨ad9, cp9, be9, ce9, rfl, rfl⟩
  refine JL_store (vs := [_, _, _]) 1 ty26 rfl rfl rfl (AllOne.cons rfl (AllOne.cons rfl (AllOne.cons rfl AllOne.nil))) rfl (Nat.le_of_ble_eq_true rfl) ?_
  refine JL_done_up 10 [box _ _ [_, _, _], box _ _ [_, _, _]] [_, _, _, _] rfl rfl (by simp only [upd_pend, upd_base, flatP, updV_zero, updV_succ]; rfl) rfl rfl ?_
  refine JC_ret ?_
  refine JE_ret (vs := [_]) [vCells ad9 (u32s (fnum (some (q1)))), vCells be9 (u32s (fden (some (q1))))] Tryd.results44 ⟨RV.cell (vs := [_, _, _]) 1 ty26 rfl rfl ⟨rfl, rfl, rfl, trivial⟩, rfl⟩ ?_ ?_
  · exact ⟨ad9, cp9, be9, ce9, rfl, rfl⟩
  · exact (all_cons (by repeat (first | with_reducible exact mm0 | refine mmS ?_)) (all_cons (by repeat (first | with_reducible exact mm0 | refine mmS ?_)) all_nil))

theorem rneg_con {s1 : Bool} {ad1 : Option Addr} {n1 c1 : Nat} {L1 : List Nat} {be1 : Option Addr} {m1 e1 : Nat} {M1 : List Nat} {q1 : Rat} (g1 : FIn s1 n1 L1 m1 M1 q1 10000000) :
    ConF Tryd.prog 65 [.agg #[.bool s1, .slice ad1 n1 c1, .slice be1 m1 e1]] [vCells ad1 (u32s L1), vCells be1 (u32s M1)]
      (FO (some (-q1))) := by
  refine ConF_of Tryd.func65 rfl 11 _ rfl rfl ?_
  intro w0
  refine JC_norm ⟨11, [], [_, _, _, _, _, _, _, _, _, _, _]⟩ [] [_, _] rfl rfl rfl ?_
  refine JC_seq ?_
  refine JC_region ?_
  refine JL_box rfl rfl (fun b1 => ?_)
  refine JL_alloc z26 (fun b2 => ?_)
  refine JL_done_up 11 [box _ _ [_, _, _], box _ _ [_, _, _]] [_, _] rfl rfl (by simp only [upd_pend, upd_base, flatP, updV_zero, updV_succ]; rfl) rfl rfl ?_
  refine JC_seq ?_
  refine JC_region ?_
  refine JL_fieldAddr fo26_0 rfl ?_
  refine JL_load 0 ty4 rfl rfl rfl ?_
  refine JL_not rfl ?_
  refine JL_fieldAddr fo26_1 rfl ?_
  refine JL_loadA (vs := [_]) 0 ty24 rfl rfl ⟨rfl, trivial⟩ ?_
  refine JL_fieldAddr fo26_2 rfl ?_
  refine JL_loadA (vs := [_]) 0 ty24 rfl rfl ⟨rfl, trivial⟩ ?_
  refine JL_callF' (Asks.cons (holds_of_mem (by repeat (first | with_reducible exact mm0 | refine mmS ?_))) (Asks.cons (holds_of_mem (by repeat (first | with_reducible exact mm0 | refine mmS ?_))) Asks.nil)) (rmade_con (g1.num.mono (by omega)) (g1.den.mono (by omega)) (by rw [mkq_neg, g1.eq])) rfl ca62 ⟨rfl, rfl, rfl, rfl⟩ ?_
  rintro _ _ ⟨ad10, cp10, be10, ce10, rfl, rfl⟩
  refine JL_store (vs := [_, _, _]) 1 ty26 rfl rfl rfl (AllOne.cons rfl (AllOne.cons rfl (AllOne.cons rfl AllOne.nil))) rfl (Nat.le_of_ble_eq_true rfl) ?_
  refine JL_done_up 11 [box _ _ [_, _, _], box _ _ [_, _, _]] [_, _, _, _] rfl rfl (by simp only [upd_pend, upd_base, flatP, updV_zero, updV_succ]; rfl) rfl rfl ?_
  refine JC_ret ?_
  refine JE_ret (vs := [_]) [vCells ad10 (u32s (fnum (some (-q1)))), vCells be10 (u32s (fden (some (-q1))))] Tryd.results65 ⟨RV.cell (vs := [_, _, _]) 1 ty26 rfl rfl ⟨rfl, rfl, rfl, trivial⟩, rfl⟩ ?_ ?_
  · exact ⟨ad10, cp10, be10, ce10, rfl, rfl⟩
  · exact (all_cons (by repeat (first | with_reducible exact mm0 | refine mmS ?_)) (all_cons (by repeat (first | with_reducible exact mm0 | refine mmS ?_)) all_nil))

theorem rsign_con {s1 : Bool} {ad1 : Option Addr} {n1 c1 : Nat} {L1 : List Nat} {be1 : Option Addr} {m1 e1 : Nat} {M1 : List Nat} {q1 : Rat} (g1 : FIn s1 n1 L1 m1 M1 q1 10000000) :
    ConF Tryd.prog 27 [.agg #[.bool s1, .slice ad1 n1 c1, .slice be1 m1 e1]] [vCells ad1 (u32s L1), vCells be1 (u32s M1)]
      (fun v φo => v = .int .i64 (sgnQ q1) ∧ φo = []) := by
  have hq1 := g1.qs.mono (b := 100000000) (by decide)
  refine ConF_of Tryd.func27 rfl 12 _ rfl rfl ?_
  intro w0
  refine JC_norm ⟨12, [], [_, _, _, _, _, _, _, _, _, _, _, _]⟩ [] [_, _] rfl rfl rfl ?_
  refine JC_seq ?_
  refine JC_region ?_
  refine JL_box rfl rfl (fun b1 => ?_)
  refine JL_assign rfl ?_
  refine JL_done_up 12 [box _ _ [_, _, _]] [_, _] rfl rfl (by simp only [upd_pend, upd_base, flatP, updV_zero, updV_succ]; rfl) rfl rfl ?_
  refine JC_seq ?_
  refine JC_region ?_
  refine JL_loadA (vs := [_, _, _]) 0 ty26 rfl rfl ⟨rfl, rfl, rfl, trivial⟩ ?_
  refine JL_callF' (Asks.cons (holds_of_mem (by repeat (first | with_reducible exact mm0 | refine mmS ?_))) (Asks.cons (holds_of_mem (by repeat (first | with_reducible exact mm0 | refine mmS ?_))) Asks.nil)) (rnormq_con g1) rfl ca44 ⟨rfl, rfl⟩ ?_
  rintro _ _ ⟨ad4, cp4, be4, ce4, rfl, rfl⟩
  refine JL_store (vs := [_, _, _]) 0 ty26 rfl rfl rfl (AllOne.cons rfl (AllOne.cons rfl (AllOne.cons rfl AllOne.nil))) rfl (Nat.le_of_ble_eq_true rfl) ?_
  refine JL_done_up 12 [box _ _ [_, _, _]] [_, _, _, _] rfl rfl (by simp only [upd_pend, upd_base, flatP, updV_zero, updV_succ]; rfl) rfl rfl ?_
  refine JC_seq ?_
  refine JC_block ?_
  refine JC_seq ?_
  refine JC_region ?_
  refine JL_fieldAddr fo26_1 rfl ?_
  refine JL_loadA (vs := [_]) 0 ty24 rfl rfl ⟨rfl, trivial⟩ ?_
  refine JL_callF' (Asks.cons (holds_of_mem (by repeat (first | with_reducible exact mm0 | refine mmS ?_))) Asks.nil) (rzero_con (NIn.num hq1)) rfl ca45 ⟨rfl, rfl⟩ ?_
  rintro _ _ ⟨rfl, rfl⟩
  refine JL_split (fun h8 => ?_) (fun h8 => ?_)
  · refine JL_assign rfl ?_
    refine JL_done_up 12 [box _ _ [_, _, _]] [_, _, _, _] rfl rfl (by simp only [upd_pend, upd_base, flatP, updV_zero, updV_succ]; rfl) rfl rfl ?_
    refine JC_true rfl ?_
    refine JC_seq ?_
    refine JC_region ?_
    refine JL_assign rfl ?_
    refine JL_done_up 12 [box _ _ [_, _, _]] [_, _, _, _] rfl rfl (by simp only [upd_pend, upd_base, flatP, updV_zero, updV_succ]; rfl) rfl rfl ?_
    refine JC_ret ?_
    refine JE_block_ret ?_
    refine JE_then_ret ?_
    refine JE_ret (vs := [_]) [] Tryd.results27 ⟨rfl, rfl⟩ ?_ ?_
    · exact ⟨by rw [sgnQ_num0 h8]; rfl, rfl⟩
    · exact all_nil
  · refine JL_assign rfl ?_
    refine JL_done_up 12 [box _ _ [_, _, _]] [_, _, _, _] rfl rfl (by simp only [upd_pend, upd_base, flatP, updV_zero, updV_succ]; rfl) rfl rfl ?_
    refine JC_false rfl ?_
    refine JC_seq ?_
    refine JC_region ?_
    refine JL_fieldAddr fo26_0 rfl ?_
    refine JL_load 0 ty4 rfl rfl rfl ?_
    refine JL_assign rfl ?_
    refine JL_done_up 12 [box _ _ [_, _, _]] [_, _, _, _] rfl rfl (by simp only [upd_pend, upd_base, flatP, updV_zero, updV_succ]; rfl) rfl rfl ?_
    refine JC_cond rfl (fun hb => ?_) (fun hb => ?_)
    · have h9 := hb
      refine JC_seq ?_
      refine JC_region ?_
      refine JL_assign rfl ?_
      refine JL_done_up 12 [box _ _ [_, _, _]] [_, _, _, _] rfl rfl (by simp only [upd_pend, upd_base, flatP, updV_zero, updV_succ]; rfl) rfl rfl ?_
      refine JC_ret ?_
      refine JE_block_ret ?_
      refine JE_then_ret ?_
      refine JE_ret (vs := [_]) [] Tryd.results27 ⟨rfl, rfl⟩ ?_ ?_
      · exact ⟨by rw [sgnQ_ne h8, h9]; rfl, rfl⟩
      · exact all_nil
    · have h9 := hb
      refine JC_skip ?_
      refine JE_block_normal ?_
      refine JE_then ?_
      refine JC_seq ?_
      refine JC_region ?_
      refine JL_assign rfl ?_
      refine JL_done_up 12 [box _ _ [_, _, _]] [_, _, _, _] rfl rfl (by simp only [upd_pend, upd_base, flatP, updV_zero, updV_succ]; rfl) rfl rfl ?_
      refine JC_ret ?_
      refine JE_ret (vs := [_]) [] Tryd.results27 ⟨rfl, rfl⟩ ?_ ?_
      · exact ⟨by rw [sgnQ_ne h8, h9]; rfl, rfl⟩
      · exact all_nil

end Go.Fw.K
