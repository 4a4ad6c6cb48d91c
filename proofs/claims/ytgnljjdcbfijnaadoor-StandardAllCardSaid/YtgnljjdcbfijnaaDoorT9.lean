/- Walks through functions of the given program: each meets its contract. (Printed by a program of this repo.) -/
import Derived.Test.YtgnljjdcbfijnaaDoorS7
import Derived.Test.YtgnljjdcbfijnaaDoorS8
import Derived.Test.YtgnljjdcbfijnaaDoorS10
import Derived.Test.YtgnljjdcbfijnaaDoorS19
import Derived.Test.YtgnljjdcbfijnaaDoorStdN
import Derived.Test.YtgnljjdcbfijnaaDoorProg
namespace Go.Fw.T9
open Go Go.RowKit Go.Proofs Go.Nat9 Go.Fw
attribute [local irreducible] JC JL JE
theorem ca13 : callable Tryd.prog 13 = true := by kernel_rfl
theorem ca15 : callable Tryd.prog 15 = true := by kernel_rfl
theorem ca16 : callable Tryd.prog 16 = true := by kernel_rfl
theorem ca18 : callable Tryd.prog 18 = true := by kernel_rfl
theorem ca26 : callable Tryd.prog 26 = true := by kernel_rfl
theorem ca27 : callable Tryd.prog 27 = true := by kernel_rfl
theorem ca9 : callable Tryd.prog 9 = true := by kernel_rfl
theorem fo23_0 : fOf Tryd.prog 23 0 = some 0 := by kernel_rfl
theorem fo23_1 : fOf Tryd.prog 23 1 = some 1 := by kernel_rfl
theorem sl25 : slOf Tryd.prog 25 = some (41, 6, 112, [.bool false, .slice none 0 0, .slice none 0 0, .bool false, .slice none 0 0, .slice none 0 0]) := by kernel_rfl
theorem sl54 : slOf Tryd.prog 54 = some (3, 1, 8, [.int .i64 0]) := by kernel_rfl
theorem sl61 : slOf Tryd.prog 61 = some (35, 3, 56, [.bool false, .slice none 0 0, .slice none 0 0]) := by kernel_rfl
theorem ty3 : tyOf Tryd.prog 3 = some (false, 1) := by kernel_rfl
theorem ty35 : tyOf Tryd.prog 35 = some (true, 3) := by kernel_rfl
theorem ub4 : Tryd.prog.underlying 4 = some .bool := by kernel_rfl
end Go.Fw.T9
namespace Go.Fw.K
open Go Go.RowKit Go.Proofs Go.Nat9 Go.Fw Go.Fw.T9
attribute [local irreducible] JC JL JE

set_option maxHeartbeats 4000000 in
theorem standardAll_con {ad0 : Option Addr} {c0 : Nat} {L : List Int} (hc0 : L.length ≤ c0 ∧ c0 ≤ 9223372036854775807 ∧ ∀ z ∈ L, -9223372036854775808 ≤ z ∧ z ≤ 9223372036854775807) {s1 : Bool} {ad1 : Option Addr} {n1 c1 : Nat} {L1 : List Nat} {be1 : Option Addr} {m1 e1 : Nat} {M1 : List Nat} (r1 : RIn n1 L1 m1 M1) {tol m : Int} (htol1 : -9223372036854775808 ≤ tol) (htol2 : tol ≤ 9223372036854775807) (hm1 : -9223372036854775808 ≤ m) (hm2 : m ≤ 9223372036854775807) :
    ConF Tryd.prog 8 [.slice ad0 L.length c0, .agg #[.bool s1, .slice ad1 n1 c1, .slice be1 m1 e1], .agg #[.int .i64 tol, .int .i64 m]] [vCells ad0 (i64s L), vCells ad1 (u32s L1), vCells be1 (u32s M1), vTab]
      (fun v φo => v = .bool true ∧ φo = []) := by
  have _ := htol1
  have _ := htol2
  have _ := hm1
  have _ := hm2
  refine ConF_of Tryd.func8 rfl 80 _ rfl rfl ?_
  intro w0
  refine JC_norm ⟨80, [], [_, _, _, _, _, _, _, _, _, _, _, _, _, _, _, _, _, _, _, _, _, _, _, _, _, _, _, _, _, _, _, _, _, _, _, _, _, _, _, _, _, _, _, _, _, _, _, _, _, _, _, _, _, _, _, _, _, _, _, _, _, _, _, _, _, _, _, _, _, _, _, _, _, _, _, _, _, _, _, _]⟩ [] [_, _, _, _] rfl rfl rfl ?_
  refine JC_seq ?_
  refine JC_region ?_
  refine JL_box rfl rfl (fun b4 => ?_)
  refine JL_box rfl rfl (fun b5 => ?_)
  refine JL_assign rfl ?_
  refine JL_done_up 80 [box _ _ [_, _, _], box _ _ [_, _]] [_, _, _, _] rfl rfl (by simp only [nrmF]; rfl) rfl rfl ?_
  refine JC_seq ?_
  refine JC_seq ?_
  refine JC_region ?_
  refine JL_callF' (Asks.cons (holds_of_mem (by repeat (first | with_reducible exact mm0 | refine mmS ?_))) Asks.nil) (awake38_con) rfl ca9 rfl ?_
  rintro _ _ ⟨rfl, rfl⟩
  refine JL_not rfl ?_
  rw [Bool.not_true]
  refine JL_move rfl ?_
  refine JL_guard_yes rfl rfl ?_
  refine JL_move rfl ?_
  refine JL_guard_yes rfl rfl ?_
  refine JL_loadA (vs := [_, _, _]) 0 ty35 rfl rfl ⟨rfl, rfl, rfl, trivial⟩ ?_
  refine JL_guard_yes rfl rfl ?_
  refine JL_buildN (cs0 := [.bool false, .slice none 0 0, .slice none 0 0]) (cs := [_, _, _]) [(0, [_, _, _])] sl61 (by kernel_rfl) ⟨⟨rfl, _, rfl, rfl⟩, rfl⟩ rfl rfl rfl rfl (fun g16 => ?_)
  refine JL_guard_yes rfl rfl ?_
  refine JL_callF' (Asks.cons (by first | exact holds_of_mem (by repeat (first | with_reducible exact mm0 | refine mmS ?_)) | (exact holds_of_own 2 rfl)) Asks.nil) (fewB_con (l := [⟨s1, ad1, n1, c1, L1, be1, m1, e1, M1⟩]) (Nat.le_of_ble_eq_true rfl)) rfl ca13 ⟨rfl, rfl, rfl⟩ ?_
  rintro _ _ ⟨rfl, rfl⟩
  refine JL_splitV (fun h17 => ?_) (fun h17 => ?_)
  · obtain ⟨_, _, hfx⟩ := of_decide_eq_true h17
    obtain ⟨a1, b1⟩ : n1 ≤ 3 ∧ m1 ≤ 3 := hfx 0 (Nat.le_of_ble_eq_true rfl)
    have g1 := r1.fin (s := s1) (Nat.le_succ_of_le a1) (Nat.le_succ_of_le b1)
    obtain ⟨q1, hQ1⟩ : ∃ q, mkq s1 (val L1) (val M1) = q := ⟨_, rfl⟩
    rw [hQ1] at g1
    have hq3 : qs q1 4 := by rw [← hQ1]; exact raw_qs r1.u1 (by rw [r1.l1]; exact a1) r1.u2 (by rw [r1.l2]; exact b1)
    refine JL_guard_yes rfl rfl ?_
    refine JL_not rfl ?_
    rw [Bool.not_true]
    refine JL_pick_f rfl rfl ?_
    refine JL_move rfl ?_
    refine JL_guard_yes rfl rfl ?_
    refine JL_move rfl ?_
    refine JL_guard_yes rfl rfl ?_
    refine JL_len sl54 rfl ?_
    refine JL_guard_yes rfl rfl ?_
    refine JL_gtr rfl rfl ?_
    refine JL_split (fun h23 => ?_) (fun h23 => ?_)
    · refine JL_pick_f rfl rfl ?_
      refine JL_done_up 80 [box _ _ [_, _, _], box _ _ [_, _], osl _ _ _ _ _ _] [_, _, _, _] rfl rfl (by simp only [nrmF]; rfl) rfl rfl ?_
      refine JC_true rfl ?_
      refine JC_seq ?_
      refine JC_region ?_
      refine JL_callF' (Asks.cons (by first | exact holds_of_mem (by repeat (first | with_reducible exact mm0 | refine mmS ?_)) | (exact holds_of_own 2 rfl)) Asks.nil) (awake38_con) rfl ca9 rfl ?_
      rintro _ _ ⟨rfl, rfl⟩
      refine JL_assign rfl ?_
      refine JL_done_up 80 [box _ _ [_, _, _], box _ _ [_, _], osl _ _ _ _ _ _] [_, _, _, _] rfl rfl (by simp only [nrmF]; rfl) rfl rfl ?_
      refine JC_ret ?_
      refine JE_then_ret ?_
      refine JE_ret (vs := [_]) [] Tryd.results8 ⟨rfl, rfl⟩ ?_ ?_
      · exact ⟨rfl, rfl⟩
      · exact all_nil
    · refine JL_pick_f rfl rfl ?_
      refine JL_done_up 80 [box _ _ [_, _, _], box _ _ [_, _], osl _ _ _ _ _ _] [_, _, _, _] rfl rfl (by simp only [nrmF]; rfl) rfl rfl ?_
      refine JC_false rfl ?_
      refine JC_skip ?_
      refine JE_then ?_
      refine JC_seq ?_
      refine JC_region ?_
      refine JL_move rfl ?_
      refine JL_fieldAddr fo23_0 rfl ?_
      refine JL_load 1 ty3 rfl rfl rfl ?_
      refine JL_fieldAddr fo23_1 rfl ?_
      refine JL_load 1 ty3 rfl rfl rfl ?_
      refine JL_callF' (Asks.cons (by first | exact holds_of_mem (by repeat (first | with_reducible exact mm0 | refine mmS ?_)) | (exact holds_of_own 2 rfl)) Asks.nil) (icommon_con (tol := tol) (m := m) hc0.1) rfl ca27 ⟨rfl, rfl, rfl, rfl⟩ ?_
      rintro _ _ ⟨ad32, c32, l32, rfl, hl32, rfl⟩
      refine JL_move rfl ?_
      refine JL_extract rfl rfl ?_
      refine JL_extract rfl rfl ?_
      refine JL_assign rfl ?_
      refine JL_assign rfl ?_
      refine JL_done_up 80 [box _ _ [_, _, _], box _ _ [_, _], osl _ _ _ _ _ _] [_, _, _, _, _, _] rfl rfl (by simp only [nrmF]; rfl) rfl rfl ?_
      refine JC_seq ?_
      refine JC_region ?_
      refine JL_move rfl ?_
      refine JL_loadA (vs := [_, _, _]) 0 ty35 rfl rfl ⟨rfl, rfl, rfl, trivial⟩ ?_
      refine JL_fieldAddr fo23_0 rfl ?_
      refine JL_load 1 ty3 rfl rfl rfl ?_
      refine JL_fieldAddr fo23_1 rfl ?_
      refine JL_load 1 ty3 rfl rfl rfl ?_
      refine JL_callF' (Asks.cons (by first | exact holds_of_mem (by repeat (first | with_reducible exact mm0 | refine mmS ?_)) | (exact holds_of_own 2 rfl)) (Asks.cons (by first | exact holds_of_mem (by repeat (first | with_reducible exact mm0 | refine mmS ?_)) | (exact holds_of_own 2 rfl)) (Asks.cons (by first | exact holds_of_mem (by repeat (first | with_reducible exact mm0 | refine mmS ?_)) | (exact holds_of_own 2 rfl)) Asks.nil))) (iscore_con (tol := tol) (m := m) (g1.mono (by decide))) rfl ca26 ⟨rfl, rfl, rfl, rfl, rfl⟩ ?_
      rintro _ _ ⟨rfl, rfl⟩
      refine JL_move rfl ?_
      refine JL_extract rfl rfl ?_
      refine JL_extract rfl rfl ?_
      refine JL_assign rfl ?_
      refine JL_assign rfl ?_
      refine JL_done_up 80 [box _ _ [_, _, _], box _ _ [_, _], osl _ _ _ _ _ _] [_, _, _, _, _, _] rfl rfl (by simp only [nrmF]; rfl) rfl rfl ?_
      refine JC_seq ?_
      refine JC_seq ?_
      refine JC_region ?_
      refine JL_move rfl ?_
      refine JL_neq rfl rfl ?_
      refine JL_split (fun h46 => ?_) (fun h46 => ?_)
      · refine JL_done_up 80 [box _ _ [_, _, _], box _ _ [_, _], osl _ _ _ _ _ _] [_, _, _, _, _, _] rfl rfl (by simp only [nrmF]; rfl) rfl rfl ?_
        refine JC_true rfl ?_
        refine JC_seq ?_
        have hn0 : l32.length = 0 := by have e := congrArg List.length hl32; rw [comR_no h46] at e; simpa using e
        refine JC_region ?_
        refine JL_move rfl ?_
        refine JL_len sl25 rfl ?_
        refine JL_eql rfl rfl ?_
        rw [decide_eq_true (p := ((l32.length : Nat) : Int) = 0) (by omega)]
        refine JL_move rfl ?_
        refine JL_guard_yes rfl rfl ?_
        refine JL_move rfl ?_
        refine JL_guard_yes rfl rfl ?_
        refine JL_neq rfl rfl ?_
        refine JL_split (fun h52 => ?_) (fun h52 => ?_)
        · refine JL_guard_yes rfl rfl ?_
          refine JL_move rfl ?_
          refine JL_guard_no rfl rfl ?_
          refine JL_guard_no rfl rfl ?_
          refine JL_guard_no rfl rfl ?_
          refine JL_guard_yes rfl rfl ?_
          refine JL_pick_t rfl rfl ?_
          refine JL_pick_t rfl rfl ?_
          refine JL_assign rfl ?_
          refine JL_done_up 80 [box _ _ [_, _, _], box _ _ [_, _], osl _ _ _ _ _ _] [_, _, _, _, _, _] rfl rfl (by simp only [nrmF]; rfl) rfl rfl ?_
          refine JC_ret ?_
          refine JE_then_ret ?_
          refine JE_ret (vs := [_]) [] Tryd.results8 ⟨rfl, rfl⟩ ?_ ?_
          · exact ⟨rfl, rfl⟩
          · exact all_nil
        · refine JL_guard_yes rfl rfl ?_
          refine JL_move rfl ?_
          refine JL_guard_yes rfl rfl ?_
          refine JL_move rfl ?_
          refine JL_guard_yes rfl rfl ?_
          refine JL_len sl54 rfl ?_
          refine JL_guard_yes rfl rfl ?_
          refine JL_eql rfl rfl ?_
          rw [decide_eq_true (p := ((L.length : Nat) : Int) = 0) (by have := comE_7 (Classical.byContradiction h52); omega)]
          refine JL_guard_yes rfl rfl ?_
          refine JL_pick_f rfl rfl ?_
          refine JL_pick_t rfl rfl ?_
          refine JL_assign rfl ?_
          refine JL_done_up 80 [box _ _ [_, _, _], box _ _ [_, _], osl _ _ _ _ _ _] [_, _, _, _, _, _] rfl rfl (by simp only [nrmF]; rfl) rfl rfl ?_
          refine JC_ret ?_
          refine JE_then_ret ?_
          refine JE_ret (vs := [_]) [] Tryd.results8 ⟨rfl, rfl⟩ ?_ ?_
          · exact ⟨rfl, rfl⟩
          · exact all_nil
      · refine JL_done_up 80 [box _ _ [_, _, _], box _ _ [_, _], osl _ _ _ _ _ _] [_, _, _, _, _, _] rfl rfl (by simp only [nrmF]; rfl) rfl rfl ?_
        refine JC_false rfl ?_
        refine JC_skip ?_
        refine JE_then ?_
        refine JC_seq ?_
        refine JC_seq ?_
        have he0 : comE L tol m = 0 := Classical.byContradiction h46
        refine JC_region ?_
        refine JL_loadA (vs := [_, _, _]) 0 ty35 rfl rfl ⟨rfl, rfl, rfl, trivial⟩ ?_
        refine JL_callF' (Asks.cons (by first | exact holds_of_mem (by repeat (first | with_reducible exact mm0 | refine mmS ?_)) | (exact holds_of_own 2 rfl)) (Asks.cons (by first | exact holds_of_mem (by repeat (first | with_reducible exact mm0 | refine mmS ?_)) | (exact holds_of_own 2 rfl)) Asks.nil)) (fsign_con (g1.mono (by decide))) rfl ca18 ⟨rfl, rfl⟩ ?_
        rintro _ _ ⟨rfl, rfl⟩
        refine JL_leq rfl rfl ?_
        refine JL_split (fun h61 => ?_) (fun h61 => ?_)
        · refine JL_done_up 80 [box _ _ [_, _, _], box _ _ [_, _], osl _ _ _ _ _ _] [_, _, _, _, _, _] rfl rfl (by simp only [nrmF]; rfl) rfl rfl ?_
          refine JC_true rfl ?_
          refine JC_seq ?_
          refine JC_region ?_
          refine JL_move rfl ?_
          refine JL_eql rfl rfl ?_
          rw [all_unit he0 (fun e => absurd (sgn_pos.2 e) (by omega)), decide_eq_true rfl]
          refine JL_assign rfl ?_
          refine JL_done_up 80 [box _ _ [_, _, _], box _ _ [_, _], osl _ _ _ _ _ _] [_, _, _, _, _, _] rfl rfl (by simp only [nrmF]; rfl) rfl rfl ?_
          refine JC_ret ?_
          refine JE_then_ret ?_
          refine JE_ret (vs := [_]) [] Tryd.results8 ⟨rfl, rfl⟩ ?_ ?_
          · exact ⟨rfl, rfl⟩
          · exact all_nil
        · refine JL_done_up 80 [box _ _ [_, _, _], box _ _ [_, _], osl _ _ _ _ _ _] [_, _, _, _, _, _] rfl rfl (by simp only [nrmF]; rfl) rfl rfl ?_
          refine JC_false rfl ?_
          refine JC_skip ?_
          refine JE_then ?_
          refine JC_seq ?_
          have hq0 : 0 < q1 := sgn_pos.1 (by omega)
          obtain ⟨hs0, hin⟩ := all_score he0 hq0
          obtain ⟨ho, hp⟩ := com_apart he0 hl32
          have hqs := se_qs hl32 (comR_qs L tol m)
          have hlen := comR_len L tol m
          rw [← hl32, List.length_map] at hlen
          rw [← hl32] at hin
          refine JC_region ?_
          refine JL_move rfl ?_
          refine JL_eql rfl rfl ?_
          rw [hs0, decide_eq_true rfl]
          refine JL_move rfl ?_
          refine JL_guard_yes rfl rfl ?_
          refine JL_move rfl ?_
          refine JL_guard_yes rfl rfl ?_
          refine JL_callF' (Asks.cons (by first | exact holds_of_mem (by repeat (first | with_reducible exact mm0 | refine mmS ?_)) | (exact holds_of_own 2 rfl)) (Asks.cons (by first | exact holds_of_mem (by repeat (first | with_reducible exact mm0 | refine mmS ?_)) | (exact holds_of_own 2 rfl)) Asks.nil)) (apart_con (by omega) hqs ho hp) rfl ca15 ⟨rfl, rfl⟩ ?_
          rintro _ _ ⟨rfl, rfl⟩
          refine JL_pick_t rfl rfl ?_
          refine JL_move rfl ?_
          refine JL_guard_yes rfl rfl ?_
          refine JL_move rfl ?_
          refine JL_guard_yes rfl rfl ?_
          refine JL_loadA (vs := [_, _, _]) 0 ty35 rfl rfl ⟨rfl, rfl, rfl, trivial⟩ ?_
          refine JL_guard_yes rfl rfl ?_
          refine JL_callF' (Asks.cons (by first | exact holds_of_mem (by repeat (first | with_reducible exact mm0 | refine mmS ?_)) | (exact holds_of_own 2 rfl)) (Asks.cons (by first | exact holds_of_mem (by repeat (first | with_reducible exact mm0 | refine mmS ?_)) | (exact holds_of_own 2 rfl)) (Asks.cons (by first | exact holds_of_mem (by repeat (first | with_reducible exact mm0 | refine mmS ?_)) | (exact holds_of_own 2 rfl)) (Asks.cons (by first | exact holds_of_mem (by repeat (first | with_reducible exact mm0 | refine mmS ?_)) | (exact holds_of_own 2 rfl)) Asks.nil)))) (in38_con (g1.mono (by decide)) (by omega) hqs) rfl ca16 ⟨rfl, rfl, rfl⟩ ?_
          rintro _ _ ⟨rfl, rfl⟩
          refine JL_guard_yes rfl rfl ?_
          refine JL_move rfl ?_
          refine JL_guard_yes rfl rfl ?_
          refine JL_move rfl ?_
          refine JL_guard_yes rfl rfl ?_
          refine JL_len sl54 rfl ?_
          refine JL_guard_yes rfl rfl ?_
          refine JL_eql rfl rfl ?_
          refine JL_guard_yes rfl rfl ?_
          refine JL_eqlB ub4 rfl rfl ?_
          rw [hin, beq_self_eq_true]
          refine JL_pick_t rfl rfl ?_
          refine JL_assign rfl ?_
          refine JL_done_up 80 [box _ _ [_, _, _], box _ _ [_, _], osl _ _ _ _ _ _] [_, _, _, _, _, _] rfl rfl (by simp only [nrmF]; rfl) rfl rfl ?_
          refine JC_ret ?_
          refine JE_ret (vs := [_]) [] Tryd.results8 ⟨rfl, rfl⟩ ?_ ?_
          · exact ⟨rfl, rfl⟩
          · exact all_nil
  · refine JL_guard_yes rfl rfl ?_
    refine JL_not rfl ?_
    rw [Bool.not_false]
    refine JL_pick_f rfl rfl ?_
    refine JL_move rfl ?_
    refine JL_guard_no rfl rfl ?_
    refine JL_guard_no rfl rfl ?_
    refine JL_guard_no rfl rfl ?_
    refine JL_pick_t rfl rfl ?_
    refine JL_done_up 80 [box _ _ [_, _, _], box _ _ [_, _], osl _ _ _ _ _ _] [_, _, _, _] rfl rfl (by simp only [nrmF]; rfl) rfl rfl ?_
    refine JC_true rfl ?_
    refine JC_seq ?_
    refine JC_region ?_
    refine JL_callF' (Asks.cons (by first | exact holds_of_mem (by repeat (first | with_reducible exact mm0 | refine mmS ?_)) | (exact holds_of_own 2 rfl)) Asks.nil) (awake38_con) rfl ca9 rfl ?_
    rintro _ _ ⟨rfl, rfl⟩
    refine JL_assign rfl ?_
    refine JL_done_up 80 [box _ _ [_, _, _], box _ _ [_, _], osl _ _ _ _ _ _] [_, _, _, _] rfl rfl (by simp only [nrmF]; rfl) rfl rfl ?_
    refine JC_ret ?_
    refine JE_then_ret ?_
    refine JE_ret (vs := [_]) [] Tryd.results8 ⟨rfl, rfl⟩ ?_ ?_
    · exact ⟨rfl, rfl⟩
    · exact all_nil

end Go.Fw.K
