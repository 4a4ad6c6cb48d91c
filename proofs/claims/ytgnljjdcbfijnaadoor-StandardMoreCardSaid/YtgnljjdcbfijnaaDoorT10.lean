/- Walks through functions of the given program: each meets its contract. (Printed by a program of this repo.) -/
import Derived.Test.YtgnljjdcbfijnaaDoorS7
import Derived.Test.YtgnljjdcbfijnaaDoorS8
import Derived.Test.YtgnljjdcbfijnaaDoorSC
import Derived.Test.YtgnljjdcbfijnaaDoorS19
import Derived.Test.YtgnljjdcbfijnaaDoorStdN
import Derived.Test.YtgnljjdcbfijnaaDoorProg
namespace Go.Fw.T10
open Go Go.RowKit Go.Proofs Go.Nat9 Go.Fw
attribute [local irreducible] JC JL JE
theorem ca13 : callable Tryd.prog 13 = true := by kernel_rfl
theorem ca16 : callable Tryd.prog 16 = true := by kernel_rfl
theorem ca21 : callable Tryd.prog 21 = true := by kernel_rfl
theorem ca22 : callable Tryd.prog 22 = true := by kernel_rfl
theorem ca27 : callable Tryd.prog 27 = true := by kernel_rfl
theorem ca28 : callable Tryd.prog 28 = true := by kernel_rfl
theorem ca9 : callable Tryd.prog 9 = true := by kernel_rfl
theorem fo23_0 : fOf Tryd.prog 23 0 = some 0 := by kernel_rfl
theorem fo23_1 : fOf Tryd.prog 23 1 = some 1 := by kernel_rfl
theorem fo41_0 : fOf Tryd.prog 41 0 = some 0 := by kernel_rfl
theorem fo41_1 : fOf Tryd.prog 41 1 = some 3 := by kernel_rfl
theorem mixed : Tryd.prog.follows .mixedOrders = true := by kernel_rfl
theorem sl25 : slOf Tryd.prog 25 = some (41, 6, 112, [.bool false, .slice none 0 0, .slice none 0 0, .bool false, .slice none 0 0, .slice none 0 0]) := by kernel_rfl
theorem sl54 : slOf Tryd.prog 54 = some (3, 1, 8, [.int .i64 0]) := by kernel_rfl
theorem sl61 : slOf Tryd.prog 61 = some (35, 3, 56, [.bool false, .slice none 0 0, .slice none 0 0]) := by kernel_rfl
theorem ty3 : tyOf Tryd.prog 3 = some (false, 1) := by kernel_rfl
theorem ty35 : tyOf Tryd.prog 35 = some (true, 3) := by kernel_rfl
theorem z35 : zeroOf Tryd.prog 35 = some [.bool false, .slice none 0 0, .slice none 0 0] := by kernel_rfl
end Go.Fw.T10
namespace Go.Fw.K
open Go Go.RowKit Go.Proofs Go.Nat9 Go.Fw Go.Fw.T10
attribute [local irreducible] JC JL JE

theorem icommonD_con {ad0 : Option Addr} {c0 : Nat} {L : List Int} {tol m : Int} (h : L.length ≤ c0) : ConF Tryd.prog 27 [.slice (subAd ad0 c0 1 1) (L.length - 1) (c0 - 1), .int .i64 tol, .int .i64 m] [vCells (subAd ad0 c0 1 1) (i64s (L.drop 1))] (SPS (comR (L.drop 1) tol m) (comE (L.drop 1) tol m)) := by
  have e := icommon_con (L := L.drop 1) (ad0 := subAd ad0 c0 1 1) (c0 := c0 - 1) (tol := tol) (m := m) (by rw [List.length_drop]; omega)
  rw [List.length_drop] at e
  exact e
theorem in38T_con {ad : Option Addr} {c : Nat} {l : List Se} {s1 : Bool} {ad1 : Option Addr} {n1 c1 : Nat} {L1 : List Nat} {be1 : Option Addr} {m1 e1 : Nat} {M1 : List Nat} {q1 : Rat} (g1 : FIn s1 n1 L1 m1 M1 q1 10) (hn : l.length ≤ 1000000) (hb : ∀ j, qs (l.getD j dS).lo.q 3 ∧ qs (l.getD j dS).hi.q 3) (h : inS (l.map Se.qq) q1 = true) : ConF Tryd.prog 16 [.slice ad l.length c, .agg #[.bool s1, .slice ad1 n1 c1, .slice be1 m1 e1]] [vCells ad (scells l), vSes l, vCells ad1 (u32s L1), vCells be1 (u32s M1)] (fun v φo => v = .bool true ∧ φo = []) := by
  rw [← h]
  exact in38_con g1 hn hb


set_option maxHeartbeats 8000000 in
set_option maxRecDepth 20000 in
theorem standardMore_con {ad0 : Option Addr} {c0 : Nat} {L : List Int} (hc0 : L.length ≤ c0 ∧ c0 ≤ 9223372036854775807 ∧ ∀ z ∈ L, -9223372036854775808 ≤ z ∧ z ≤ 9223372036854775807) {tol m : Int} (htol1 : -9223372036854775808 ≤ tol) (htol2 : tol ≤ 9223372036854775807) (hm1 : -9223372036854775808 ≤ m) (hm2 : m ≤ 9223372036854775807) :
    ConF Tryd.prog 7 [.slice ad0 L.length c0, .agg #[.int .i64 tol, .int .i64 m]] [vCells ad0 (i64s L), vTab]
      (fun v φo => v = .bool true ∧ φo = []) := by
  have _ := htol1
  have _ := htol2
  have _ := hm1
  have _ := hm2
  refine ConF_of Tryd.func7 rfl 144 _ rfl rfl ?_
  intro w0
  refine JC_norm ⟨144, [], [_, _, _, _, _, _, _, _, _, _, _, _, _, _, _, _, _, _, _, _, _, _, _, _, _, _, _, _, _, _, _, _, _, _, _, _, _, _, _, _, _, _, _, _, _, _, _, _, _, _, _, _, _, _, _, _, _, _, _, _, _, _, _, _, _, _, _, _, _, _, _, _, _, _, _, _, _, _, _, _, _, _, _, _, _, _, _, _, _, _, _, _, _, _, _, _, _, _, _, _, _, _, _, _, _, _, _, _, _, _, _, _, _, _, _, _, _, _, _, _, _, _, _, _, _, _, _, _, _, _, _, _, _, _, _, _, _, _, _, _, _, _, _, _]⟩ [] [_, _] rfl rfl rfl ?_
  refine JC_seq ?_
  refine JC_region ?_
  refine JL_box rfl rfl (fun b3 => ?_)
  refine JL_assign rfl ?_
  refine JL_done_up 144 [box _ _ [_, _]] [_, _] rfl rfl (by simp only [nrmF]; rfl) rfl rfl ?_
  refine JC_seq ?_
  refine JC_seq ?_
  refine JC_addView (f := true) (p := vCells none (rcells [])) (fun _ _ => nil_view) ?_
  refine JC_region ?_
  refine JL_callF' (Asks.cons (holds_of_mem (by repeat (first | with_reducible exact mm0 | refine mmS ?_))) Asks.nil) (awake38_con) rfl ca9 rfl ?_
  rintro _ _ ⟨rfl, rfl⟩
  refine JL_not rfl ?_
  rw [Bool.not_true]
  refine JL_move rfl ?_
  refine JL_guard_yes rfl rfl ?_
  refine JL_move rfl ?_
  refine JL_guard_yes rfl rfl ?_
  refine JL_callF' (Asks.cons (holds_of_mem (by repeat (first | with_reducible exact mm0 | refine mmS ?_))) Asks.nil) (fewB_con (l := []) (Nat.le_of_ble_eq_true rfl)) rfl ca13 ⟨rfl, rfl, rfl⟩ ?_
  rintro _ _ ⟨rfl, rfl⟩
  refine JL_splitV (fun h21 => ?_) (fun h21 => ?_)
  · refine JL_guard_yes rfl rfl ?_
    refine JL_not rfl ?_
    rw [Bool.not_true]
    refine JL_pick_f rfl rfl ?_
    refine JL_move rfl ?_
    refine JL_guard_yes rfl rfl ?_
    refine JL_move rfl ?_
    refine JL_guard_yes rfl rfl ?_
    refine JL_len sl54 rfl ?_
    refine JL_guard_yes rfl rfl ?_
    refine JL_gtr rfl rfl ?_
    refine JL_split (fun h27 => ?_) (fun h27 => ?_)
    · refine JL_pick_f rfl rfl ?_
      refine JL_move rfl ?_
      refine JL_guard_no rfl rfl ?_
      refine JL_guard_no rfl rfl ?_
      refine JL_guard_no rfl rfl ?_
      refine JL_pick_t rfl rfl ?_
      refine JL_done_up 144 [box _ _ [_, _]] [_, _, _] rfl rfl (by simp only [nrmF]; rfl) rfl rfl ?_
      refine JC_true rfl ?_
      refine JC_seq ?_
      refine JC_region ?_
      refine JL_callF' (Asks.cons (holds_of_mem (by repeat (first | with_reducible exact mm0 | refine mmS ?_))) Asks.nil) (awake38_con) rfl ca9 rfl ?_
      rintro _ _ ⟨rfl, rfl⟩
      refine JL_assign rfl ?_
      refine JL_done_up 144 [box _ _ [_, _]] [_, _, _] rfl rfl (by simp only [nrmF]; rfl) rfl rfl ?_
      refine JC_ret ?_
      refine JE_then_ret ?_
      refine JE_ret (vs := [_]) [] Tryd.results7 ⟨rfl, rfl⟩ ?_ ?_
      · exact ⟨rfl, rfl⟩
      · exact all_nil
    · refine JL_pick_f rfl rfl ?_
      refine JL_move rfl ?_
      refine JL_guard_yes rfl rfl ?_
      refine JL_move rfl ?_
      refine JL_guard_yes rfl rfl ?_
      refine JL_len sl54 rfl ?_
      refine JL_guard_yes rfl rfl ?_
      refine JL_lss rfl rfl ?_
      refine JL_split (fun h32 => ?_) (fun h32 => ?_)
      · refine JL_pick_f rfl rfl ?_
        refine JL_done_up 144 [box _ _ [_, _]] [_, _, _] rfl rfl (by simp only [nrmF]; rfl) rfl rfl ?_
        refine JC_true rfl ?_
        refine JC_seq ?_
        refine JC_region ?_
        refine JL_callF' (Asks.cons (holds_of_mem (by repeat (first | with_reducible exact mm0 | refine mmS ?_))) Asks.nil) (awake38_con) rfl ca9 rfl ?_
        rintro _ _ ⟨rfl, rfl⟩
        refine JL_assign rfl ?_
        refine JL_done_up 144 [box _ _ [_, _]] [_, _, _] rfl rfl (by simp only [nrmF]; rfl) rfl rfl ?_
        refine JC_ret ?_
        refine JE_then_ret ?_
        refine JE_ret (vs := [_]) [] Tryd.results7 ⟨rfl, rfl⟩ ?_ ?_
        · exact ⟨rfl, rfl⟩
        · exact all_nil
      · refine JL_pick_f rfl rfl ?_
        refine JL_done_up 144 [box _ _ [_, _]] [_, _, _] rfl rfl (by simp only [nrmF]; rfl) rfl rfl ?_
        refine JC_false rfl ?_
        refine JC_skip ?_
        refine JE_then ?_
        refine JC_seq ?_
        refine JC_region ?_
        refine JL_move rfl ?_
        refine JL_fieldAddr fo23_0 rfl ?_
        refine JL_load 0 ty3 rfl rfl rfl ?_
        refine JL_fieldAddr fo23_1 rfl ?_
        refine JL_load 0 ty3 rfl rfl rfl ?_
        refine JL_callF' (Asks.cons (holds_of_mem (by repeat (first | with_reducible exact mm0 | refine mmS ?_))) Asks.nil) (icommon_con (tol := tol) (m := m) hc0.1) rfl ca27 ⟨rfl, rfl, rfl, rfl⟩ ?_
        rintro _ _ ⟨ad41, c41, l41, rfl, hl41, rfl⟩
        refine JL_move rfl ?_
        refine JL_extract rfl rfl ?_
        refine JL_extract rfl rfl ?_
        refine JL_assign rfl ?_
        refine JL_assign rfl ?_
        refine JL_done_up 144 [box _ _ [_, _]] [_, _, _, _, _] rfl rfl (by simp only [nrmF]; rfl) rfl rfl ?_
        refine JC_seq ?_
        refine JC_seq ?_
        refine JC_region ?_
        refine JL_move rfl ?_
        refine JL_neq rfl rfl ?_
        refine JL_split (fun h45 => ?_) (fun h45 => ?_)
        · refine JL_done_up 144 [box _ _ [_, _]] [_, _, _, _, _] rfl rfl (by simp only [nrmF]; rfl) rfl rfl ?_
          refine JC_true rfl ?_
          refine JC_seq ?_
          have hn0 : l41.length = 0 := by have e := congrArg List.length hl41; rw [comR_no h45] at e; simpa using e
          refine JC_region ?_
          refine JL_move rfl ?_
          refine JL_len sl25 rfl ?_
          refine JL_eql rfl rfl ?_
          rw [decide_eq_true (p := ((l41.length : Nat) : Int) = 0) (by omega)]
          refine JL_assign rfl ?_
          refine JL_done_up 144 [box _ _ [_, _]] [_, _, _, _, _] rfl rfl (by simp only [nrmF]; rfl) rfl rfl ?_
          refine JC_ret ?_
          refine JE_then_ret ?_
          refine JE_ret (vs := [_]) [] Tryd.results7 ⟨rfl, rfl⟩ ?_ ?_
          · exact ⟨rfl, rfl⟩
          · exact all_nil
        · refine JL_done_up 144 [box _ _ [_, _]] [_, _, _, _, _] rfl rfl (by simp only [nrmF]; rfl) rfl rfl ?_
          refine JC_false rfl ?_
          refine JC_skip ?_
          refine JE_then ?_
          refine JC_seq ?_
          have he0 : comE L tol m = 0 := Classical.byContradiction h45
          obtain ⟨⟨ht1, ht2⟩, hm1, hm2⟩ := limE_zero.1 (comE_zero he0).2.1
          refine JC_region ?_
          refine JL_move rfl ?_
          refine JL_fieldAddr fo23_0 rfl ?_
          refine JL_load 0 ty3 rfl rfl rfl ?_
          refine JL_add_to rfl rfl (IntWalk.i64_in _ (by omega)) ?_
          refine JL_min rfl rfl ?_
          obtain ⟨T, hT⟩ : ∃ x, (if (5000 : Int) < tol + 3 then (5000 : Int) else tol + 3) = x := ⟨_, rfl⟩
          rw [hT]
          have hT2 : tol ≤ T ∧ T ≤ 5000 := by rw [← hT]; split <;> omega
          refine JL_fieldAddr fo23_1 rfl ?_
          refine JL_load 0 ty3 rfl rfl rfl ?_
          refine JL_callF' (Asks.cons (holds_of_mem (by repeat (first | with_reducible exact mm0 | refine mmS ?_))) Asks.nil) (icommon_con (tol := T) (m := m) hc0.1) rfl ca27 ⟨rfl, rfl, rfl, rfl⟩ ?_
          rintro _ _ ⟨ad57, c57, l57, rfl, hl57, rfl⟩
          refine JL_move rfl ?_
          refine JL_extract rfl rfl ?_
          refine JL_extract rfl rfl ?_
          refine JL_assign rfl ?_
          refine JL_assign rfl ?_
          refine JL_done_up 144 [box _ _ [_, _]] [_, _, _, _, _, _, _] rfl rfl (by simp only [nrmF]; rfl) rfl rfl ?_
          refine JC_seq ?_
          refine JC_region ?_
          refine JL_move rfl ?_
          refine JL_fieldAddr fo23_0 rfl ?_
          refine JL_load 0 ty3 rfl rfl rfl ?_
          refine JL_fieldAddr fo23_1 rfl ?_
          refine JL_load 0 ty3 rfl rfl rfl ?_
          refine JL_add_to rfl rfl (IntWalk.i64_in _ (by omega)) ?_
          refine JL_min rfl rfl ?_
          obtain ⟨M, hM⟩ : ∃ x, (if (24 : Int) < m + 1 then (24 : Int) else m + 1) = x := ⟨_, rfl⟩
          rw [hM]
          have hM2 : m ≤ M ∧ M ≤ 24 := by rw [← hM]; split <;> omega
          refine JL_callF' (Asks.cons (holds_of_mem (by repeat (first | with_reducible exact mm0 | refine mmS ?_))) Asks.nil) (icommon_con (tol := tol) (m := M) hc0.1) rfl ca27 ⟨rfl, rfl, rfl, rfl⟩ ?_
          rintro _ _ ⟨ad68, c68, l68, rfl, hl68, rfl⟩
          refine JL_move rfl ?_
          refine JL_extract rfl rfl ?_
          refine JL_extract rfl rfl ?_
          refine JL_assign rfl ?_
          refine JL_assign rfl ?_
          refine JL_done_up 144 [box _ _ [_, _]] [_, _, _, _, _, _, _, _, _] rfl rfl (by simp only [nrmF]; rfl) rfl rfl ?_
          refine JC_seq ?_
          refine JC_viewSubI (ad := ad0) (L := L) c0 1 L.length (by repeat (first | with_reducible exact mm0 | refine mmS ?_)) hc0.1 ?_
          rw [List.take_length]
          refine JC_drawT mixed 11 [spV 72 [] _, spV 73 [0] _, spV 74 [] _, spV 75 [2] _, spV 76 [] _, spV 77 [4] _, spC 78 [1, 3, 5] _, spC 71 [6] _, spC 79 [7] (fun v φo => ∃ (ad : Option Addr) (c : Nat) (l : List Se), v = .slice ad l.length c ∧ l.map Se.qq = comR (L.drop 1) tol m ∧ φo = [vCells ad (scells l), vSes l]), spC 80 [7] (fun v φo => v = .int .i64 (comE (L.drop 1) tol m) ∧ φo = []), spC 11 [8] _] ⟨OblS_V (fun vals ex ψ => (by
              refine JL_normQ ⟨144, [(72, _), (73, _), (74, _), (75, _), (76, _), (77, _), (78, _), (71, _), (79, _), (80, _), (11, _)], _⟩ (_ :: _ :: _ :: _ :: _ :: _ :: _ :: _ :: _ :: _ :: ψ) rfl rfl ?_
              refine JL_move rfl ?_
              exact JL_nil (JE_stepV rfl ss0))), OblS_V (fun vals ex ψ => (by
              refine JL_normQ ⟨144, [(72, _), (73, _), (74, _), (75, _), (76, _), (77, _), (78, _), (71, _), (79, _), (80, _), (11, _)], _⟩ (_ :: _ :: _ :: _ :: _ :: _ :: _ :: _ :: _ :: _ :: ψ) rfl rfl ?_
              refine JL_slice 1 L.length c0 sl54 rfl (.some rfl rfl) .none .none (.inl rfl) (by omega) hc0.1 (by omega) ?_
              exact JL_nil (JE_stepV rfl ss0))), OblS_V (fun vals ex ψ => (by
              refine JL_normQ ⟨144, [(72, _), (73, _), (74, _), (75, _), (76, _), (77, _), (78, _), (71, _), (79, _), (80, _), (11, _)], _⟩ (_ :: _ :: _ :: _ :: _ :: _ :: _ :: _ :: _ :: _ :: ψ) rfl rfl ?_
              refine JL_fieldAddr fo23_0 rfl ?_
              exact JL_nil (JE_stepV rfl ss0))), OblS_V (fun vals ex ψ => (by
              refine JL_normQ ⟨144, [(72, _), (73, _), (74, _), (75, _), (76, _), (77, _), (78, _), (71, _), (79, _), (80, _), (11, _)], _⟩ (_ :: _ :: _ :: _ :: _ :: _ :: _ :: _ :: _ :: _ :: ψ) rfl rfl ?_
              refine JL_load 0 ty3 rfl rfl rfl ?_
              exact JL_nil (JE_stepV rfl ss0))), OblS_V (fun vals ex ψ => (by
              refine JL_normQ ⟨144, [(72, _), (73, _), (74, _), (75, _), (76, _), (77, _), (78, _), (71, _), (79, _), (80, _), (11, _)], _⟩ (_ :: _ :: _ :: _ :: _ :: _ :: _ :: _ :: _ :: _ :: ψ) rfl rfl ?_
              refine JL_fieldAddr fo23_1 rfl ?_
              exact JL_nil (JE_stepV rfl ss0))), OblS_V (fun vals ex ψ => (by
              refine JL_normQ ⟨144, [(72, _), (73, _), (74, _), (75, _), (76, _), (77, _), (78, _), (71, _), (79, _), (80, _), (11, _)], _⟩ (_ :: _ :: _ :: _ :: _ :: _ :: _ :: _ :: _ :: _ :: ψ) rfl rfl ?_
              refine JL_load 0 ty3 rfl rfl rfl ?_
              exact JL_nil (JE_stepV rfl ss0))), OblS_C (fun vals ex ψ => (by
              refine JL_normQ ⟨144, [(72, _), (73, _), (74, _), (75, _), (76, _), (77, _), (78, _), (71, _), (79, _), (80, _), (11, _)], _⟩ (_ :: _ :: _ :: _ :: _ :: _ :: _ :: _ :: _ :: _ :: ψ) rfl rfl ?_
              refine JL_callF' (Asks.cons (holds_of_mem (by repeat (first | with_reducible exact mm0 | refine mmS ?_))) Asks.nil) (icommonD_con (tol := tol) (m := m) hc0.1) rfl ca27 ⟨rfl, rfl, rfl, rfl⟩ ?_
              exact fun v φo hP => JL_nil (JE_stepC φo rfl hP (fun p hp => mapB_l hp) (fun p hp => mapB_r (ss0 p hp))))), OblS_C (fun vals ex ψ => (by
              refine JL_normQ ⟨144, [(72, _), (73, _), (74, _), (75, _), (76, _), (77, _), (78, _), (71, _), (79, _), (80, _), (11, _)], _⟩ (_ :: _ :: _ :: _ :: _ :: _ :: _ :: _ :: _ :: _ :: _ :: ψ) rfl rfl ?_
              generalize vals 6 = x78
              refine JL_usePost mm0 (fun φo hP => ?_)
              refine JL_move rfl ?_
              exact JL_nil (JE_stepC φo rfl hP (fun p hp => List.mem_append_left _ (List.mem_map.2 ⟨p, hp, rfl⟩)) (fun p hp => List.mem_append_right _ hp)))), OblS_C (fun vals ex ψ => (by
              refine JL_normQ ⟨144, [(72, _), (73, _), (74, _), (75, _), (76, _), (77, _), (78, _), (71, _), (79, _), (80, _), (11, _)], _⟩ (_ :: _ :: _ :: _ :: _ :: _ :: _ :: _ :: _ :: _ :: _ :: ψ) rfl rfl ?_
              generalize vals 7 = x71
              refine JL_usePost mm0 (fun φo hP => ?_)
              obtain ⟨ad71, c71, l71, rfl, hl71, rfl⟩ := hP
              refine JL_norm _ _ (_ :: _ :: _ :: _ :: _ :: _ :: _ :: _ :: _ :: _ :: _ :: _ :: _ :: ψ) rfl rfl rfl ?_
              refine JL_extract rfl rfl ?_
              exact JL_nil (JE_stepC [vCells ad71 (scells l71), vSes l71] rfl ⟨ad71, c71, l71, rfl, hl71, rfl⟩ (all_cons (by repeat (first | with_reducible exact mm0 | refine mmS ?_)) (all_cons (by repeat (first | with_reducible exact mm0 | refine mmS ?_)) all_nil)) (ssS (ssS ss0))))), OblS_C (fun vals ex ψ => (by
              refine JL_normQ ⟨144, [(72, _), (73, _), (74, _), (75, _), (76, _), (77, _), (78, _), (71, _), (79, _), (80, _), (11, _)], _⟩ (_ :: _ :: _ :: _ :: _ :: _ :: _ :: _ :: _ :: _ :: _ :: ψ) rfl rfl ?_
              generalize vals 7 = x71
              refine JL_usePost mm0 (fun φo hP => ?_)
              obtain ⟨ad71, c71, l71, rfl, hl71, rfl⟩ := hP
              refine JL_norm _ _ (_ :: _ :: _ :: _ :: _ :: _ :: _ :: _ :: _ :: _ :: _ :: _ :: _ :: ψ) rfl rfl rfl ?_
              refine JL_extract rfl rfl ?_
              exact JL_nil (JE_stepC [] rfl ⟨rfl, rfl⟩ all_nil (ssS (ssS ss0))))), OblS_C (fun vals ex ψ => (by
              refine JL_normQ ⟨144, [(72, _), (73, _), (74, _), (75, _), (76, _), (77, _), (78, _), (71, _), (79, _), (80, _), (11, _)], _⟩ (_ :: _ :: _ :: _ :: _ :: _ :: _ :: _ :: _ :: _ :: _ :: ψ) rfl rfl ?_
              generalize vals 8 = x79
              refine JL_usePost mm0 (fun φo hP => ?_)
              refine JL_assign rfl ?_
              exact JL_nil (JE_stepC φo rfl hP (fun p hp => List.mem_append_left _ (List.mem_map.2 ⟨p, hp, rfl⟩)) (fun p hp => List.mem_append_right _ hp)))), trivial⟩ (by kernel_rfl) (fun vals bs => ?_)
          refine JL_normL [_] ⟨144, [(72, _), (73, _), (74, _), (75, _), (76, _), (77, _), (78, _), (71, _), (79, _), (80, _), (11, _)], _⟩ [box _ _ [_, _]] [_, _, _, _, _, _, _, _, _, _, _, _, _, _, _] rfl rfl rfl rfl ?_
          generalize vals (0 + 1 + 1 + 1 + 1 + 1 + 1) = x78
          generalize vals (0 + 1 + 1 + 1 + 1 + 1 + 1 + 1) = x71
          generalize vals (0 + 1 + 1 + 1 + 1 + 1 + 1 + 1 + 1) = x79
          generalize vals (0 + 1 + 1 + 1 + 1 + 1 + 1 + 1 + 1 + 1) = x80
          generalize vals (0 + 1 + 1 + 1 + 1 + 1 + 1 + 1 + 1 + 1 + 1) = x11
          refine JL_usePost (mmS (mmS (mmS mm0))) (fun φo hP => ?_)
          obtain ⟨rfl, rfl⟩ := hP
          refine JL_norm _ [box _ _ [_, _]] [_, _, _, _, _, _, _, _, _, _, _, _, _, _, _] rfl rfl rfl ?_
          refine JL_usePost (mmS (mmS (mmS (mmS mm0)))) (fun φo hP => ?_)
          obtain ⟨ad11, c11, l11, rfl, hl11, rfl⟩ := hP
          refine JL_norm _ [box _ _ [_, _]] [_, _, _, _, _, _, _, _, _, _, _, _, _, _, _, _, _] rfl rfl rfl ?_
          refine JL_assign rfl ?_
          refine JL_done_up 144 [box _ _ [_, _]] [_, _, _, _, _, _, _, _, _, _, _, _, _, _, _, _, _] rfl rfl (by simp only [nrmF]; rfl) rfl rfl ?_
          refine JC_seq ?_
          refine JC_seq ?_
          have heb : comE L T m = 0 := comE_wide he0 ⟨⟨by omega, by omega⟩, by omega, by omega⟩
          have hec : comE L tol M = 0 := comE_wide he0 ⟨⟨by omega, by omega⟩, by omega, by omega⟩
          have hed : comE (L.drop 1) tol m = 0 := comE_less he0 (by omega)
          refine JC_region ?_
          refine JL_move rfl ?_
          refine JL_neq rfl rfl ?_
          rw [heb, decide_eq_false (p := (0 : Int) ≠ 0) (fun h => h rfl)]
          refine JL_move rfl ?_
          refine JL_guard_yes rfl rfl ?_
          refine JL_move rfl ?_
          refine JL_guard_yes rfl rfl ?_
          refine JL_neq rfl rfl ?_
          rw [hec, decide_eq_false (p := (0 : Int) ≠ 0) (fun h => h rfl)]
          refine JL_pick_f rfl rfl ?_
          refine JL_move rfl ?_
          refine JL_guard_yes rfl rfl ?_
          refine JL_move rfl ?_
          refine JL_guard_yes rfl rfl ?_
          refine JL_neq rfl rfl ?_
          rw [hed, decide_eq_false (p := (0 : Int) ≠ 0) (fun h => h rfl)]
          refine JL_pick_f rfl rfl ?_
          refine JL_done_up 144 [box _ _ [_, _]] [_, _, _, _, _, _, _, _, _, _, _, _, _, _, _, _, _] rfl rfl (by simp only [nrmF]; rfl) rfl rfl ?_
          refine JC_false rfl ?_
          refine JC_skip ?_
          refine JE_then ?_
          refine JC_seq ?_
          refine JC_seq ?_
          have hqs := se_qs hl41 (comR_qs L tol m)
          have hqb := se_qs hl57 (comR_qs L T m)
          have hqc := se_qs hl68 (comR_qs L tol M)
          have hqd := se_qs hl11 (comR_qs (L.drop 1) tol m)
          have hnl41 := comR_len L tol m
          rw [← hl41, List.length_map] at hnl41
          have hnl57 := comR_len L T m
          rw [← hl57, List.length_map] at hnl57
          have hnl68 := comR_len L tol M
          rw [← hl68, List.length_map] at hnl68
          have hnl11 := comR_len (L.drop 1) tol m
          rw [← hl11, List.length_map] at hnl11
          refine JC_region ?_
          refine JL_assign rfl ?_
          refine JL_done_up 144 [box _ _ [_, _]] [_, _, _, _, _, _, _, _, _, _, _, _, _, _, _, _, _] rfl rfl (by simp only [nrmF]; rfl) rfl rfl ?_
          refine JC_block ?_
          refine JC_loopS ((Nat)) (fun (i : Nat) => i ≤ l41.length) (fun (i : Nat) => l41.length - i) (fun u (i : Nat) => [none, none, none, none, some (u 4), none, none, none, none, none, none, none, none, some (.int .i64 (i : Nat)), some (u 14), none, some (u 16), none, none, none, none, none, none, none, none, none, none, none, none, none, none, none, none, none, none, none, none, none, none, none, none, none, none, none, none, none, none, none, none, none, none, none, none, none, none, none, none, none, none, none, none, none, none, none, none, none, none, none, none, none, none, none, none, none, none, none, none, none, none, none, none, none, none, none, none, none, none, none, none, none, none, some (u 91), some (u 92), some (u 93), some (u 94), some (u 95), some (u 96), some (u 97), some (u 98), some (u 99), some (u 100), some (u 101), some (u 102), some (u 103), some (u 104), some (u 105), some (u 106), some (u 107), some (u 108), some (u 109), some (u 110), some (u 111), some (u 112), some (u 113), some (u 114), some (u 115), some (u 116), some (u 117), some (u 118), some (u 119), some (u 120), some (u 121), some (u 122), some (u 123), some (u 124), some (u 125), some (u 126), some (u 127), some (u 128), some (u 129), some (u 130), some (u 131), some (u 132), some (u 133), some (u 134), some (u 135), some (u 136), some (u 137), some (u 138), some (u 139), some (u 140), some (u 141), some (u 142), some (u 143)]) (fun (i : Nat) => [none]) (fun (i : Nat) => []) (0) (by kernel_rfl) ?_ (by kernel_rfl) ?_ ?_
          · exact Nat.zero_le _
          · exact subset_nil
          intro u i hi
          refine JC_norm ⟨144, [], [_, _, _, _, _, _, _, _, _, _, _, _, _, _, _, _, _, _, _, _, _, _, _, _, _, _, _, _, _, _, _, _, _, _, _, _, _, _, _, _, _, _, _, _, _, _, _, _, _, _, _, _, _, _, _, _, _, _, _, _, _, _, _, _, _, _, _, _, _, _, _, _, _, _, _, _, _, _, _, _, _, _, _, _, _, _, _, _, _, _, _, _, _, _, _, _, _, _, _, _, _, _, _, _, _, _, _, _, _, _, _, _, _, _, _, _, _, _, _, _, _, _, _, _, _, _, _, _, _, _, _, _, _, _, _, _, _, _, _, _, _, _, _, _]⟩ [box _ _ [_, _]] [_, _, _, _, _, _, _, _, _, _, _, _, _, _, _, _, _] rfl rfl rfl ?_
          refine JC_seq ?_
          refine JC_seq ?_
          refine JC_region ?_
          refine JL_move rfl ?_
          refine JL_move rfl ?_
          refine JL_len sl25 rfl ?_
          refine JL_lss rfl rfl ?_
          refine JL_split (fun h94 => ?_) (fun h94 => ?_)
          · refine JL_done_up 144 [box _ _ [_, _]] [_, _, _, _, _, _, _, _, _, _, _, _, _, _, _, _, _] rfl rfl (by simp only [nrmF]; rfl) rfl rfl ?_
            refine JC_true rfl ?_
            refine JC_skip ?_
            refine JE_then ?_
            refine JC_seq ?_
            refine JC_block ?_
            refine JC_seq ?_
            refine JC_sesGet (f := true) (l := l41) (l41.getD i dS) (by repeat (first | with_reducible exact mm0 | refine mmS ?_)) (se_mem (by omega)) ?_
            have hb := hqs i
            have hsp := com_span he0 hl41 (i := i) (by omega)
            have hqab : qs ((l41.getD i dS).lo.q + (l41.getD i dS).hi.q) 7 := hb.1.add hb.2 (by decide)
            have hqh : qs (ofq 1 2) 3 := qs_ofq 1 2 (by decide) (by decide)
            have hqz : qs (((l41.getD i dS).lo.q + (l41.getD i dS).hi.q) * ofq 1 2) 10 := hqab.mul hqh (by decide)
            refine JC_drawT mixed 14 [spV 97 [] _, spV 98 [] _, spV 99 [0, 1] _, spV 100 [2] _, spV 101 [3] _, spV 102 [] _, spV 103 [] _, spV 104 [5, 6] _, spV 105 [7] _, spV 106 [8] _, spC 107 [4, 9] _, spC 108 [] _, spC 109 [10, 11] _, spA 14 35 [.bool false, .slice none 0 0, .slice none 0 0]] ⟨OblS_V (fun vals ex ψ => (by
                refine JL_normQ ⟨144, [(97, _), (98, _), (99, _), (100, _), (101, _), (102, _), (103, _), (104, _), (105, _), (106, _), (107, _), (108, _), (109, _), (14, _)], _⟩ (_ :: _ :: _ :: _ :: _ :: _ :: _ :: _ :: _ :: _ :: _ :: _ :: _ :: _ :: _ :: _ :: _ :: _ :: _ :: _ :: _ :: ψ) rfl rfl ?_
                refine JL_move rfl ?_
                exact JL_nil (JE_stepV rfl ss0))), OblS_V (fun vals ex ψ => (by
                refine JL_normQ ⟨144, [(97, _), (98, _), (99, _), (100, _), (101, _), (102, _), (103, _), (104, _), (105, _), (106, _), (107, _), (108, _), (109, _), (14, _)], _⟩ (_ :: _ :: _ :: _ :: _ :: _ :: _ :: _ :: _ :: _ :: _ :: _ :: _ :: _ :: _ :: _ :: _ :: _ :: _ :: _ :: _ :: ψ) rfl rfl ?_
                refine JL_move rfl ?_
                exact JL_nil (JE_stepV rfl ss0))), OblS_V (fun vals ex ψ => (by
                refine JL_normQ ⟨144, [(97, _), (98, _), (99, _), (100, _), (101, _), (102, _), (103, _), (104, _), (105, _), (106, _), (107, _), (108, _), (109, _), (14, _)], _⟩ (_ :: _ :: _ :: _ :: _ :: _ :: _ :: _ :: _ :: _ :: _ :: _ :: _ :: _ :: _ :: _ :: _ :: _ :: _ :: _ :: _ :: ψ) rfl rfl ?_
                refine JL_indexAddr i sl25 rfl rfl rfl (by omega) (by first | exact Reads.view (by repeat (first | with_reducible exact mm0 | refine mmS ?_))) (by rw [scells_length]; omega) ?_
                exact JL_nil (JE_stepV rfl ss0))), OblS_V (fun vals ex ψ => (by
                refine JL_normQ ⟨144, [(97, _), (98, _), (99, _), (100, _), (101, _), (102, _), (103, _), (104, _), (105, _), (106, _), (107, _), (108, _), (109, _), (14, _)], _⟩ (_ :: _ :: _ :: _ :: _ :: _ :: _ :: _ :: _ :: _ :: _ :: _ :: _ :: _ :: _ :: _ :: _ :: _ :: _ :: _ :: _ :: ψ) rfl rfl ?_
                refine JL_fieldAddrE fo41_0 rfl (by first | exact Reads.view (by repeat (first | with_reducible exact mm0 | refine mmS ?_))) (by rw [scells_length]; omega) ?_
                exact JL_nil (JE_stepV rfl ss0))), OblS_V (fun vals ex ψ => (by
                refine JL_normQ ⟨144, [(97, _), (98, _), (99, _), (100, _), (101, _), (102, _), (103, _), (104, _), (105, _), (106, _), (107, _), (108, _), (109, _), (14, _)], _⟩ (_ :: _ :: _ :: _ :: _ :: _ :: _ :: _ :: _ :: _ :: _ :: _ :: _ :: _ :: _ :: _ :: _ :: _ :: _ :: _ :: _ :: ψ) rfl rfl ?_
                refine JL_loadEA (vs := [_, _, _]) ty35 (Nat.zero_lt_succ _) rfl (by first | exact Reads.view (by repeat (first | with_reducible exact mm0 | refine mmS ?_))) (scells_loA (by omega)) ?_
                exact JL_nil (JE_stepV rfl ss0))), OblS_V (fun vals ex ψ => (by
                refine JL_normQ ⟨144, [(97, _), (98, _), (99, _), (100, _), (101, _), (102, _), (103, _), (104, _), (105, _), (106, _), (107, _), (108, _), (109, _), (14, _)], _⟩ (_ :: _ :: _ :: _ :: _ :: _ :: _ :: _ :: _ :: _ :: _ :: _ :: _ :: _ :: _ :: _ :: _ :: _ :: _ :: _ :: _ :: ψ) rfl rfl ?_
                refine JL_move rfl ?_
                exact JL_nil (JE_stepV rfl ss0))), OblS_V (fun vals ex ψ => (by
                refine JL_normQ ⟨144, [(97, _), (98, _), (99, _), (100, _), (101, _), (102, _), (103, _), (104, _), (105, _), (106, _), (107, _), (108, _), (109, _), (14, _)], _⟩ (_ :: _ :: _ :: _ :: _ :: _ :: _ :: _ :: _ :: _ :: _ :: _ :: _ :: _ :: _ :: _ :: _ :: _ :: _ :: _ :: _ :: ψ) rfl rfl ?_
                refine JL_move rfl ?_
                exact JL_nil (JE_stepV rfl ss0))), OblS_V (fun vals ex ψ => (by
                refine JL_normQ ⟨144, [(97, _), (98, _), (99, _), (100, _), (101, _), (102, _), (103, _), (104, _), (105, _), (106, _), (107, _), (108, _), (109, _), (14, _)], _⟩ (_ :: _ :: _ :: _ :: _ :: _ :: _ :: _ :: _ :: _ :: _ :: _ :: _ :: _ :: _ :: _ :: _ :: _ :: _ :: _ :: _ :: ψ) rfl rfl ?_
                refine JL_indexAddr i sl25 rfl rfl rfl (by omega) (by first | exact Reads.view (by repeat (first | with_reducible exact mm0 | refine mmS ?_))) (by rw [scells_length]; omega) ?_
                exact JL_nil (JE_stepV rfl ss0))), OblS_V (fun vals ex ψ => (by
                refine JL_normQ ⟨144, [(97, _), (98, _), (99, _), (100, _), (101, _), (102, _), (103, _), (104, _), (105, _), (106, _), (107, _), (108, _), (109, _), (14, _)], _⟩ (_ :: _ :: _ :: _ :: _ :: _ :: _ :: _ :: _ :: _ :: _ :: _ :: _ :: _ :: _ :: _ :: _ :: _ :: _ :: _ :: _ :: ψ) rfl rfl ?_
                refine JL_fieldAddrE fo41_1 rfl (by first | exact Reads.view (by repeat (first | with_reducible exact mm0 | refine mmS ?_))) (by rw [scells_length]; omega) ?_
                exact JL_nil (JE_stepV rfl ss0))), OblS_V (fun vals ex ψ => (by
                refine JL_normQ ⟨144, [(97, _), (98, _), (99, _), (100, _), (101, _), (102, _), (103, _), (104, _), (105, _), (106, _), (107, _), (108, _), (109, _), (14, _)], _⟩ (_ :: _ :: _ :: _ :: _ :: _ :: _ :: _ :: _ :: _ :: _ :: _ :: _ :: _ :: _ :: _ :: _ :: _ :: _ :: _ :: _ :: ψ) rfl rfl ?_
                refine JL_loadEA (vs := [_, _, _]) ty35 (Nat.zero_lt_succ _) rfl (by first | exact Reads.view (by repeat (first | with_reducible exact mm0 | refine mmS ?_))) (scells_hiA (by omega)) ?_
                exact JL_nil (JE_stepV rfl ss0))), OblS_C (fun vals ex ψ => (by
                refine JL_normQ ⟨144, [(97, _), (98, _), (99, _), (100, _), (101, _), (102, _), (103, _), (104, _), (105, _), (106, _), (107, _), (108, _), (109, _), (14, _)], _⟩ (_ :: _ :: _ :: _ :: _ :: _ :: _ :: _ :: _ :: _ :: _ :: _ :: _ :: _ :: _ :: _ :: _ :: _ :: _ :: _ :: _ :: ψ) rfl rfl ?_
                refine JL_callF' (Asks.cons (holds_of_mem (by repeat (first | with_reducible exact mm0 | refine mmS ?_))) (Asks.cons (holds_of_mem (by repeat (first | with_reducible exact mm0 | refine mmS ?_))) (Asks.cons (holds_of_mem (by repeat (first | with_reducible exact mm0 | refine mmS ?_))) (Asks.cons (holds_of_mem (by repeat (first | with_reducible exact mm0 | refine mmS ?_))) Asks.nil)))) (faddq_con (FIn.some (hb.1.mono (by decide))) (FIn.some (hb.2.mono (by decide)))) rfl ca28 ⟨rfl, rfl, rfl⟩ ?_
                exact fun v φo hP => JL_nil (JE_stepC φo rfl hP (fun p hp => mapB_l hp) (fun p hp => mapB_r (ss0 p hp))))), OblS_C (fun vals ex ψ => (by
                refine JL_normQ ⟨144, [(97, _), (98, _), (99, _), (100, _), (101, _), (102, _), (103, _), (104, _), (105, _), (106, _), (107, _), (108, _), (109, _), (14, _)], _⟩ (_ :: _ :: _ :: _ :: _ :: _ :: _ :: _ :: _ :: _ :: _ :: _ :: _ :: _ :: _ :: _ :: _ :: _ :: _ :: _ :: _ :: ψ) rfl rfl ?_
                refine JL_callF' Asks.nil (fofi_con 1 2 (by omega) (by omega)) rfl ca22 ⟨rfl, rfl, rfl⟩ ?_
                exact fun v φo hP => JL_nil (JE_stepC φo rfl hP (fun p hp => mapB_l hp) (fun p hp => mapB_r (ss0 p hp))))), OblS_C (fun vals ex ψ => (by
                refine JL_normQ ⟨144, [(97, _), (98, _), (99, _), (100, _), (101, _), (102, _), (103, _), (104, _), (105, _), (106, _), (107, _), (108, _), (109, _), (14, _)], _⟩ (_ :: _ :: _ :: _ :: _ :: _ :: _ :: _ :: _ :: _ :: _ :: _ :: _ :: _ :: _ :: _ :: _ :: _ :: _ :: _ :: _ :: _ :: _ :: ψ) rfl rfl ?_
                generalize vals 10 = x107
                refine JL_usePost mm0 (fun φo hP => ?_)
                obtain ⟨ad107, cp107, be107, ce107, rfl, rfl⟩ := hP
                refine JL_norm _ _ (_ :: _ :: _ :: _ :: _ :: _ :: _ :: _ :: _ :: _ :: _ :: _ :: _ :: _ :: _ :: _ :: _ :: _ :: _ :: _ :: _ :: _ :: _ :: _ :: _ :: ψ) rfl rfl rfl ?_
                generalize vals 11 = x108
                refine JL_usePost (mmS (mmS (mmS mm0))) (fun φo hP => ?_)
                obtain ⟨ad108, cp108, be108, ce108, rfl, rfl⟩ := hP
                refine JL_norm _ _ (_ :: _ :: _ :: _ :: _ :: _ :: _ :: _ :: _ :: _ :: _ :: _ :: _ :: _ :: _ :: _ :: _ :: _ :: _ :: _ :: _ :: _ :: _ :: _ :: _ :: _ :: _ :: ψ) rfl rfl rfl ?_
                refine JL_callF' (Asks.cons (holds_of_mem (by repeat (first | with_reducible exact mm0 | refine mmS ?_))) (Asks.cons (holds_of_mem (by repeat (first | with_reducible exact mm0 | refine mmS ?_))) (Asks.cons (holds_of_mem (by repeat (first | with_reducible exact mm0 | refine mmS ?_))) (Asks.cons (holds_of_mem (by repeat (first | with_reducible exact mm0 | refine mmS ?_))) Asks.nil)))) (fmulq_con (FIn.some (hqab.mono (by decide))) (FIn.some (hqh.mono (by decide)))) rfl ca21 ⟨rfl, rfl, rfl⟩ ?_
                exact fun v φo hP => JL_nil (JE_stepC φo rfl hP (fun p hp => mapB_l hp) (fun p hp => mapB_r ((ssS (ssS (ssS (ssS ss0)))) p hp))))), OblS_al rfl z35, trivial⟩ (by kernel_rfl) (fun vals bs => ?_)
            refine JL_normL [_] ⟨144, [(97, _), (98, _), (99, _), (100, _), (101, _), (102, _), (103, _), (104, _), (105, _), (106, _), (107, _), (108, _), (109, _), (14, _)], _⟩ [box _ _ [_, _], box _ _ [_, _, _]] [_, _, _, _, _, _, _, _, _, _, _, _, _, _, _, _, _, _, _, _, _, _, _, _] rfl rfl rfl rfl ?_
            generalize vals (0 + 1 + 1 + 1 + 1 + 1 + 1 + 1 + 1 + 1 + 1) = x107
            generalize vals (0 + 1 + 1 + 1 + 1 + 1 + 1 + 1 + 1 + 1 + 1 + 1) = x108
            generalize vals (0 + 1 + 1 + 1 + 1 + 1 + 1 + 1 + 1 + 1 + 1 + 1 + 1) = x109
            generalize bs (0 + 1 + 1 + 1 + 1 + 1 + 1 + 1 + 1 + 1 + 1 + 1 + 1 + 1) = b14
            refine JL_usePost (mmS (mmS mm0)) (fun φo hP => ?_)
            obtain ⟨ad109, cp109, be109, ce109, rfl, rfl⟩ := hP
            refine JL_norm _ [box _ _ [_, _], box _ _ [_, _, _]] [_, _, _, _, _, _, _, _, _, _, _, _, _, _, _, _, _, _, _, _, _, _, _, _, _, _] rfl rfl rfl ?_
            refine JL_store (vs := [_, _, _]) 1 ty35 rfl rfl rfl (AllOne.cons rfl (AllOne.cons rfl (AllOne.cons rfl AllOne.nil))) rfl (Nat.le_of_ble_eq_true rfl) ?_
            refine JL_done_up 144 [box _ _ [_, _], box _ _ [_, _, _]] [_, _, _, _, _, _, _, _, _, _, _, _, _, _, _, _, _, _, _, _, _, _, _, _, _, _] rfl rfl (by simp only [nrmF]; rfl) rfl rfl ?_
            refine JC_seq ?_
            refine JC_drawT mixed 14 [spV 110 [] _, spV 111 [] _, spV 112 [0, 1] _, spV 113 [2] _, spV 114 [3] _, spV 115 [] _, spV 116 [] _, spV 117 [] _, spV 118 [6, 7] _, spV 119 [8] _, spV 120 [9] _, spC 121 [4, 5, 10] (fun v φo => ∃ g : Nat, v = .slice (some ⟨g, 0, none⟩) 3 3 ∧ φo = [vCells (some ⟨g, 0, none⟩) [.bool (fneg (some (l41.getD i dS).lo.q)), .slice (l41.getD i dS).lo.ad (fnum (some (l41.getD i dS).lo.q)).length (l41.getD i dS).lo.c, .slice (l41.getD i dS).lo.be (fden (some (l41.getD i dS).lo.q)).length (l41.getD i dS).lo.e, .bool (fneg (some (((l41.getD i dS).lo.q + (l41.getD i dS).hi.q) * ofq 1 2))), .slice ad109 (fnum (some (((l41.getD i dS).lo.q + (l41.getD i dS).hi.q) * ofq 1 2))).length cp109, .slice be109 (fden (some (((l41.getD i dS).lo.q + (l41.getD i dS).hi.q) * ofq 1 2))).length ce109, .bool (fneg (some (l41.getD i dS).hi.q)), .slice (l41.getD i dS).hi.ad (fnum (some (l41.getD i dS).hi.q)).length (l41.getD i dS).hi.c, .slice (l41.getD i dS).hi.be (fden (some (l41.getD i dS).hi.q)).length (l41.getD i dS).hi.e]]), spC 122 [11] (fun v φo => v = .int .i64 3 ∧ φo = []), spV 123 [] _] ⟨OblS_V (fun vals ex ψ => (by
                refine JL_normQ ⟨144, [(110, _), (111, _), (112, _), (113, _), (114, _), (115, _), (116, _), (117, _), (118, _), (119, _), (120, _), (121, _), (122, _), (123, _)], _⟩ (_ :: _ :: _ :: _ :: _ :: _ :: _ :: _ :: _ :: _ :: _ :: _ :: _ :: _ :: _ :: _ :: _ :: _ :: _ :: _ :: _ :: _ :: _ :: _ :: _ :: _ :: ψ) rfl rfl ?_
                refine JL_move rfl ?_
                exact JL_nil (JE_stepV rfl ss0))), OblS_V (fun vals ex ψ => (by
                refine JL_normQ ⟨144, [(110, _), (111, _), (112, _), (113, _), (114, _), (115, _), (116, _), (117, _), (118, _), (119, _), (120, _), (121, _), (122, _), (123, _)], _⟩ (_ :: _ :: _ :: _ :: _ :: _ :: _ :: _ :: _ :: _ :: _ :: _ :: _ :: _ :: _ :: _ :: _ :: _ :: _ :: _ :: _ :: _ :: _ :: _ :: _ :: _ :: ψ) rfl rfl ?_
                refine JL_move rfl ?_
                exact JL_nil (JE_stepV rfl ss0))), OblS_V (fun vals ex ψ => (by
                refine JL_normQ ⟨144, [(110, _), (111, _), (112, _), (113, _), (114, _), (115, _), (116, _), (117, _), (118, _), (119, _), (120, _), (121, _), (122, _), (123, _)], _⟩ (_ :: _ :: _ :: _ :: _ :: _ :: _ :: _ :: _ :: _ :: _ :: _ :: _ :: _ :: _ :: _ :: _ :: _ :: _ :: _ :: _ :: _ :: _ :: _ :: _ :: _ :: ψ) rfl rfl ?_
                refine JL_indexAddr i sl25 rfl rfl rfl (by omega) (by first | exact Reads.view (by repeat (first | with_reducible exact mm0 | refine mmS ?_))) (by rw [scells_length]; omega) ?_
                exact JL_nil (JE_stepV rfl ss0))), OblS_V (fun vals ex ψ => (by
                refine JL_normQ ⟨144, [(110, _), (111, _), (112, _), (113, _), (114, _), (115, _), (116, _), (117, _), (118, _), (119, _), (120, _), (121, _), (122, _), (123, _)], _⟩ (_ :: _ :: _ :: _ :: _ :: _ :: _ :: _ :: _ :: _ :: _ :: _ :: _ :: _ :: _ :: _ :: _ :: _ :: _ :: _ :: _ :: _ :: _ :: _ :: _ :: _ :: ψ) rfl rfl ?_
                refine JL_fieldAddrE fo41_0 rfl (by first | exact Reads.view (by repeat (first | with_reducible exact mm0 | refine mmS ?_))) (by rw [scells_length]; omega) ?_
                exact JL_nil (JE_stepV rfl ss0))), OblS_V (fun vals ex ψ => (by
                refine JL_normQ ⟨144, [(110, _), (111, _), (112, _), (113, _), (114, _), (115, _), (116, _), (117, _), (118, _), (119, _), (120, _), (121, _), (122, _), (123, _)], _⟩ (_ :: _ :: _ :: _ :: _ :: _ :: _ :: _ :: _ :: _ :: _ :: _ :: _ :: _ :: _ :: _ :: _ :: _ :: _ :: _ :: _ :: _ :: _ :: _ :: _ :: _ :: ψ) rfl rfl ?_
                refine JL_loadEA (vs := [_, _, _]) ty35 (Nat.zero_lt_succ _) rfl (by first | exact Reads.view (by repeat (first | with_reducible exact mm0 | refine mmS ?_))) (scells_loA (by omega)) ?_
                exact JL_nil (JE_stepV rfl ss0))), OblS_V (fun vals ex ψ => (by
                refine JL_normQ ⟨144, [(110, _), (111, _), (112, _), (113, _), (114, _), (115, _), (116, _), (117, _), (118, _), (119, _), (120, _), (121, _), (122, _), (123, _)], _⟩ (_ :: _ :: _ :: _ :: _ :: _ :: _ :: _ :: _ :: _ :: _ :: _ :: _ :: _ :: _ :: _ :: _ :: _ :: _ :: _ :: _ :: _ :: _ :: _ :: _ :: _ :: ψ) rfl rfl ?_
                refine JL_loadA (vs := [_, _, _]) 1 ty35 rfl rfl ⟨rfl, rfl, rfl, trivial⟩ ?_
                exact JL_nil (JE_stepV rfl ss0))), OblS_V (fun vals ex ψ => (by
                refine JL_normQ ⟨144, [(110, _), (111, _), (112, _), (113, _), (114, _), (115, _), (116, _), (117, _), (118, _), (119, _), (120, _), (121, _), (122, _), (123, _)], _⟩ (_ :: _ :: _ :: _ :: _ :: _ :: _ :: _ :: _ :: _ :: _ :: _ :: _ :: _ :: _ :: _ :: _ :: _ :: _ :: _ :: _ :: _ :: _ :: _ :: _ :: _ :: ψ) rfl rfl ?_
                refine JL_move rfl ?_
                exact JL_nil (JE_stepV rfl ss0))), OblS_V (fun vals ex ψ => (by
                refine JL_normQ ⟨144, [(110, _), (111, _), (112, _), (113, _), (114, _), (115, _), (116, _), (117, _), (118, _), (119, _), (120, _), (121, _), (122, _), (123, _)], _⟩ (_ :: _ :: _ :: _ :: _ :: _ :: _ :: _ :: _ :: _ :: _ :: _ :: _ :: _ :: _ :: _ :: _ :: _ :: _ :: _ :: _ :: _ :: _ :: _ :: _ :: _ :: ψ) rfl rfl ?_
                refine JL_move rfl ?_
                exact JL_nil (JE_stepV rfl ss0))), OblS_V (fun vals ex ψ => (by
                refine JL_normQ ⟨144, [(110, _), (111, _), (112, _), (113, _), (114, _), (115, _), (116, _), (117, _), (118, _), (119, _), (120, _), (121, _), (122, _), (123, _)], _⟩ (_ :: _ :: _ :: _ :: _ :: _ :: _ :: _ :: _ :: _ :: _ :: _ :: _ :: _ :: _ :: _ :: _ :: _ :: _ :: _ :: _ :: _ :: _ :: _ :: _ :: _ :: ψ) rfl rfl ?_
                refine JL_indexAddr i sl25 rfl rfl rfl (by omega) (by first | exact Reads.view (by repeat (first | with_reducible exact mm0 | refine mmS ?_))) (by rw [scells_length]; omega) ?_
                exact JL_nil (JE_stepV rfl ss0))), OblS_V (fun vals ex ψ => (by
                refine JL_normQ ⟨144, [(110, _), (111, _), (112, _), (113, _), (114, _), (115, _), (116, _), (117, _), (118, _), (119, _), (120, _), (121, _), (122, _), (123, _)], _⟩ (_ :: _ :: _ :: _ :: _ :: _ :: _ :: _ :: _ :: _ :: _ :: _ :: _ :: _ :: _ :: _ :: _ :: _ :: _ :: _ :: _ :: _ :: _ :: _ :: _ :: _ :: ψ) rfl rfl ?_
                refine JL_fieldAddrE fo41_1 rfl (by first | exact Reads.view (by repeat (first | with_reducible exact mm0 | refine mmS ?_))) (by rw [scells_length]; omega) ?_
                exact JL_nil (JE_stepV rfl ss0))), OblS_V (fun vals ex ψ => (by
                refine JL_normQ ⟨144, [(110, _), (111, _), (112, _), (113, _), (114, _), (115, _), (116, _), (117, _), (118, _), (119, _), (120, _), (121, _), (122, _), (123, _)], _⟩ (_ :: _ :: _ :: _ :: _ :: _ :: _ :: _ :: _ :: _ :: _ :: _ :: _ :: _ :: _ :: _ :: _ :: _ :: _ :: _ :: _ :: _ :: _ :: _ :: _ :: _ :: ψ) rfl rfl ?_
                refine JL_loadEA (vs := [_, _, _]) ty35 (Nat.zero_lt_succ _) rfl (by first | exact Reads.view (by repeat (first | with_reducible exact mm0 | refine mmS ?_))) (scells_hiA (by omega)) ?_
                exact JL_nil (JE_stepV rfl ss0))), OblS_C (fun vals ex ψ => (by
                refine JL_normQ ⟨144, [(110, _), (111, _), (112, _), (113, _), (114, _), (115, _), (116, _), (117, _), (118, _), (119, _), (120, _), (121, _), (122, _), (123, _)], _⟩ (_ :: _ :: _ :: _ :: _ :: _ :: _ :: _ :: _ :: _ :: _ :: _ :: _ :: _ :: _ :: _ :: _ :: _ :: _ :: _ :: _ :: _ :: _ :: _ :: _ :: _ :: ψ) rfl rfl ?_
                refine JL_buildN (cs0 := [.bool false, .slice none 0 0, .slice none 0 0, .bool false, .slice none 0 0, .slice none 0 0, .bool false, .slice none 0 0, .slice none 0 0]) (cs := [_, _, _, _, _, _, _, _, _]) [(0, [_, _, _]), (1, [_, _, _]), (2, [_, _, _])] sl61 (by kernel_rfl) ⟨⟨rfl, _, rfl, rfl⟩, ⟨rfl, _, rfl, rfl⟩, ⟨rfl, _, rfl, rfl⟩, rfl⟩ rfl rfl rfl rfl (fun g121 => ?_)
                refine JL_giveLast ?_
                exact JL_nil (JE_stepC [vCells (some ⟨g121, 0, none⟩) [.bool (fneg (some (l41.getD i dS).lo.q)), .slice (l41.getD i dS).lo.ad (fnum (some (l41.getD i dS).lo.q)).length (l41.getD i dS).lo.c, .slice (l41.getD i dS).lo.be (fden (some (l41.getD i dS).lo.q)).length (l41.getD i dS).lo.e, .bool (fneg (some (((l41.getD i dS).lo.q + (l41.getD i dS).hi.q) * ofq 1 2))), .slice ad109 (fnum (some (((l41.getD i dS).lo.q + (l41.getD i dS).hi.q) * ofq 1 2))).length cp109, .slice be109 (fden (some (((l41.getD i dS).lo.q + (l41.getD i dS).hi.q) * ofq 1 2))).length ce109, .bool (fneg (some (l41.getD i dS).hi.q)), .slice (l41.getD i dS).hi.ad (fnum (some (l41.getD i dS).hi.q)).length (l41.getD i dS).hi.c, .slice (l41.getD i dS).hi.be (fden (some (l41.getD i dS).hi.q)).length (l41.getD i dS).hi.e]] rfl ⟨g121, rfl, rfl⟩ (all_cons (by repeat (first | with_reducible exact mm0 | refine mmS ?_)) all_nil) (ssS ss0)))), OblS_C (fun vals ex ψ => (by
                refine JL_normQ ⟨144, [(110, _), (111, _), (112, _), (113, _), (114, _), (115, _), (116, _), (117, _), (118, _), (119, _), (120, _), (121, _), (122, _), (123, _)], _⟩ (_ :: _ :: _ :: _ :: _ :: _ :: _ :: _ :: _ :: _ :: _ :: _ :: _ :: _ :: _ :: _ :: _ :: _ :: _ :: _ :: _ :: _ :: _ :: _ :: _ :: _ :: _ :: ψ) rfl rfl ?_
                generalize vals 11 = x121
                refine JL_usePost mm0 (fun φo hP => ?_)
                obtain ⟨g121, rfl, rfl⟩ := hP
                refine JL_norm _ _ (_ :: _ :: _ :: _ :: _ :: _ :: _ :: _ :: _ :: _ :: _ :: _ :: _ :: _ :: _ :: _ :: _ :: _ :: _ :: _ :: _ :: _ :: _ :: _ :: _ :: _ :: _ :: _ :: ψ) rfl rfl rfl ?_
                refine JL_len sl61 rfl ?_
                exact JL_nil (JE_stepC [] rfl ⟨rfl, rfl⟩ all_nil (ssS ss0)))), OblS_V (fun vals ex ψ => (by
                refine JL_normQ ⟨144, [(110, _), (111, _), (112, _), (113, _), (114, _), (115, _), (116, _), (117, _), (118, _), (119, _), (120, _), (121, _), (122, _), (123, _)], _⟩ (_ :: _ :: _ :: _ :: _ :: _ :: _ :: _ :: _ :: _ :: _ :: _ :: _ :: _ :: _ :: _ :: _ :: _ :: _ :: _ :: _ :: _ :: _ :: _ :: _ :: _ :: ψ) rfl rfl ?_
                refine JL_move rfl ?_
                exact JL_nil (JE_stepV rfl ss0))), trivial⟩ (by kernel_rfl) (fun vals bs => ?_)
            refine JL_normL [] ⟨144, [(110, _), (111, _), (112, _), (113, _), (114, _), (115, _), (116, _), (117, _), (118, _), (119, _), (120, _), (121, _), (122, _), (123, _)], _⟩ [box _ _ [_, _], box _ _ [_, _, _]] [_, _, _, _, _, _, _, _, _, _, _, _, _, _, _, _, _, _, _, _, _, _, _, _, _, _, _, _] rfl rfl rfl rfl ?_
            generalize vals (0 + 1 + 1 + 1 + 1 + 1 + 1 + 1 + 1 + 1 + 1 + 1) = x121
            generalize vals (0 + 1 + 1 + 1 + 1 + 1 + 1 + 1 + 1 + 1 + 1 + 1 + 1) = x122
            refine JL_usePost mm0 (fun φo hP => ?_)
            obtain ⟨g121, rfl, rfl⟩ := hP
            refine JL_norm _ [box _ _ [_, _], box _ _ [_, _, _]] [_, _, _, _, _, _, _, _, _, _, _, _, _, _, _, _, _, _, _, _, _, _, _, _, _, _, _, _, _] rfl rfl rfl ?_
            refine JL_usePost (mmS (mmS mm0)) (fun φo hP => ?_)
            obtain ⟨rfl, rfl⟩ := hP
            refine JL_norm _ [box _ _ [_, _], box _ _ [_, _, _]] [_, _, _, _, _, _, _, _, _, _, _, _, _, _, _, _, _, _, _, _, _, _, _, _, _, _, _, _, _] rfl rfl rfl ?_
            refine JL_done_up 144 [box _ _ [_, _], box _ _ [_, _, _]] [_, _, _, _, _, _, _, _, _, _, _, _, _, _, _, _, _, _, _, _, _, _, _, _, _, _, _, _, _] rfl rfl (by simp only [nrmF]; rfl) rfl rfl ?_
            refine JC_block ?_
            refine JC_fes3 (l41.getD i dS).lo (⟨ad109, cp109, be109, ce109, (((l41.getD i dS).lo.q + (l41.getD i dS).hi.q) * ofq 1 2)⟩ : Fe) (l41.getD i dS).hi (by repeat (first | with_reducible exact mm0 | refine mmS ?_)) (by repeat (first | with_reducible exact mm0 | refine mmS ?_)) (by repeat (first | with_reducible exact mm0 | refine mmS ?_)) (by repeat (first | with_reducible exact mm0 | refine mmS ?_)) (by repeat (first | with_reducible exact mm0 | refine mmS ?_)) (by repeat (first | with_reducible exact mm0 | refine mmS ?_)) ?_
            refine JC_addView (f := true) (p := vCells (some ⟨g121, 0, none⟩) (fcells [(l41.getD i dS).lo, (⟨ad109, cp109, be109, ce109, (((l41.getD i dS).lo.q + (l41.getD i dS).hi.q) * ofq 1 2)⟩ : Fe), (l41.getD i dS).hi])) (fun w s => s.views _ (show (true, vCells (some ⟨g121, 0, none⟩) [.bool (fneg (some (l41.getD i dS).lo.q)), .slice (l41.getD i dS).lo.ad (fnum (some (l41.getD i dS).lo.q)).length (l41.getD i dS).lo.c, .slice (l41.getD i dS).lo.be (fden (some (l41.getD i dS).lo.q)).length (l41.getD i dS).lo.e, .bool (fneg (some (((l41.getD i dS).lo.q + (l41.getD i dS).hi.q) * ofq 1 2))), .slice ad109 (fnum (some (((l41.getD i dS).lo.q + (l41.getD i dS).hi.q) * ofq 1 2))).length cp109, .slice be109 (fden (some (((l41.getD i dS).lo.q + (l41.getD i dS).hi.q) * ofq 1 2))).length ce109, .bool (fneg (some (l41.getD i dS).hi.q)), .slice (l41.getD i dS).hi.ad (fnum (some (l41.getD i dS).hi.q)).length (l41.getD i dS).hi.c, .slice (l41.getD i dS).hi.be (fden (some (l41.getD i dS).hi.q)).length (l41.getD i dS).hi.e]) ∈ _ from (by repeat (first | with_reducible exact mm0 | refine mmS ?_)))) ?_
            refine JC_loopS ((Nat)) (fun (j : Nat) => j ≤ 3) (fun (j : Nat) => 3 - j) (fun u (j : Nat) => [none, none, none, none, some (u 4), none, none, none, none, none, none, none, none, none, none, none, some (u 16), none, none, none, none, none, none, none, none, none, none, none, none, none, none, none, none, none, none, none, none, none, none, none, none, none, none, none, none, none, none, none, none, none, none, none, none, none, none, none, none, none, none, none, none, none, none, none, none, none, none, none, none, none, none, none, none, none, none, none, none, none, none, none, none, none, none, none, none, none, none, none, none, none, none, none, none, none, none, none, none, none, none, none, none, none, none, none, none, none, none, none, none, none, none, none, none, none, none, none, none, none, none, none, none, none, none, some (.int .i64 (j : Nat)), some (u 124), some (u 125), some (u 126), some (u 127), some (u 128), some (u 129), some (u 130), some (u 131), some (u 132), some (u 133), some (u 134), some (u 135), some (u 136), some (u 137), some (u 138), some (u 139), some (u 140), some (u 141), some (u 142), some (u 143)]) (fun (j : Nat) => [none, none]) (fun (j : Nat) => []) (0) (by kernel_rfl) ?_ (by kernel_rfl) ?_ ?_
            · exact (by omega : 0 ≤ 3)
            · exact subset_nil
            intro u j hj
            refine JC_norm ⟨144, [], [_, _, _, _, _, _, _, _, _, _, _, _, _, _, _, _, _, _, _, _, _, _, _, _, _, _, _, _, _, _, _, _, _, _, _, _, _, _, _, _, _, _, _, _, _, _, _, _, _, _, _, _, _, _, _, _, _, _, _, _, _, _, _, _, _, _, _, _, _, _, _, _, _, _, _, _, _, _, _, _, _, _, _, _, _, _, _, _, _, _, _, _, _, _, _, _, _, _, _, _, _, _, _, _, _, _, _, _, _, _, _, _, _, _, _, _, _, _, _, _, _, _, _, _, _, _, _, _, _, _, _, _, _, _, _, _, _, _, _, _, _, _, _, _]⟩ [box _ _ [_, _], box _ _ [_, _, _]] [_, _, _, _, _, _, _, _, _, _, _, _, _, _, _, _, _, _, _, _, _, _, _, _, _, _, _, _, _, _, _] rfl rfl rfl ?_
            refine JC_seq ?_
            refine JC_region ?_
            refine JL_lss rfl rfl ?_
            refine JL_split (fun h124 => ?_) (fun h124 => ?_)
            · refine JL_done_up 144 [box _ _ [_, _], box _ _ [_, _, _]] [_, _, _, _, _, _, _, _, _, _, _, _, _, _, _, _, _, _, _, _, _, _, _, _, _, _, _, _, _, _, _] rfl rfl (by simp only [nrmF]; rfl) rfl rfl ?_
              refine JC_seq ?_
              refine JC_true rfl ?_
              refine JC_skip ?_
              refine JE_then ?_
              refine JC_seq ?_
              refine JC_block ?_
              refine JC_seq ?_
              refine JC_region ?_
              refine JL_indexAddr j sl61 rfl rfl rfl (by omega) (by first | exact Reads.view (by repeat (first | with_reducible exact mm0 | refine mmS ?_))) (by rw [fcells_length]; simp only [List.length_cons, List.length_nil]; omega) ?_
              refine JL_loadEA (vs := [_, _, _]) ty35 (Nat.zero_lt_succ _) rfl (by first | exact Reads.view (by repeat (first | with_reducible exact mm0 | refine mmS ?_))) (fcells_getA (l := [(l41.getD i dS).lo, (⟨ad109, cp109, be109, ce109, (((l41.getD i dS).lo.q + (l41.getD i dS).hi.q) * ofq 1 2)⟩ : Fe), (l41.getD i dS).hi]) (by simp only [List.length_cons, List.length_nil]; omega)) ?_
              obtain ⟨hx3, hxm⟩ := fes3_get (l41.getD i dS).lo (⟨ad109, cp109, be109, ce109, (((l41.getD i dS).lo.q + (l41.getD i dS).hi.q) * ofq 1 2)⟩ : Fe) (l41.getD i dS).hi (j := j) (by omega)
              refine JL_fesGet (f := true) (l := [(l41.getD i dS).lo, (⟨ad109, cp109, be109, ce109, (((l41.getD i dS).lo.q + (l41.getD i dS).hi.q) * ofq 1 2)⟩ : Fe), (l41.getD i dS).hi]) ([(l41.getD i dS).lo, (⟨ad109, cp109, be109, ce109, (((l41.getD i dS).lo.q + (l41.getD i dS).hi.q) * ofq 1 2)⟩ : Fe), (l41.getD i dS).hi].getD j dF) (by repeat (first | with_reducible exact mm0 | refine mmS ?_)) hxm ?_
              obtain ⟨x, hx⟩ : ∃ x, [(l41.getD i dS).lo, (⟨ad109, cp109, be109, ce109, (((l41.getD i dS).lo.q + (l41.getD i dS).hi.q) * ofq 1 2)⟩ : Fe), (l41.getD i dS).hi].getD j dF = x := ⟨_, rfl⟩
              rw [hx]
              rw [hx] at hx3
              have hqx : qs x.q 10 := by rcases hx3 with rfl | rfl | rfl; exact hb.1.mono (by decide); exact hqz; exact hb.2.mono (by decide)
              obtain ⟨hx0, hxs⟩ := hsp x.q (by rcases hx3 with rfl | rfl | rfl; exact .inl rfl; exact .inr (.inl rfl); exact .inr (.inr rfl))
              have hib : inS (l57.map Se.qq) x.q = true := by rw [hl57]; exact more_in he0 heb (by omega) (by omega) hx0 hxs
              have hic : inS (l68.map Se.qq) x.q = true := by rw [hl68]; exact more_in he0 hec (by omega) (by omega) hx0 hxs
              have hid : inS (l11.map Se.qq) x.q = true := by rw [hl11]; exact less_in he0 hed hx0 hxs
              refine JL_alloc z35 (fun b16 => ?_)
              refine JL_store (vs := [_, _, _]) 2 ty35 rfl rfl rfl (AllOne.cons rfl (AllOne.cons rfl (AllOne.cons rfl AllOne.nil))) rfl (Nat.le_of_ble_eq_true rfl) ?_
              refine JL_done_up 144 [box _ _ [_, _], box _ _ [_, _, _], box _ _ [_, _, _]] [_, _, _, _, _, _, _, _, _, _, _, _, _, _, _, _, _, _, _, _, _, _, _, _, _, _, _, _, _, _, _, _, _] rfl rfl (by simp only [nrmF]; rfl) rfl rfl ?_
              refine JC_seq ?_
              refine JC_region ?_
              refine JL_move rfl ?_
              refine JL_loadA (vs := [_, _, _]) 2 ty35 rfl rfl ⟨rfl, rfl, rfl, trivial⟩ ?_
              refine JL_callF' (Asks.cons (holds_of_mem (by repeat (first | with_reducible exact mm0 | refine mmS ?_))) (Asks.cons (holds_of_mem (by repeat (first | with_reducible exact mm0 | refine mmS ?_))) (Asks.cons (holds_of_mem (by repeat (first | with_reducible exact mm0 | refine mmS ?_))) (Asks.cons (holds_of_mem (by repeat (first | with_reducible exact mm0 | refine mmS ?_))) Asks.nil)))) (in38T_con (FIn.some (hqx.mono (by decide))) (by omega) hqb hib) rfl ca16 ⟨rfl, rfl, rfl⟩ ?_
              rintro _ _ ⟨rfl, rfl⟩
              refine JL_not rfl ?_
              rw [Bool.not_true]
              refine JL_move rfl ?_
              refine JL_guard_yes rfl rfl ?_
              refine JL_move rfl ?_
              refine JL_guard_yes rfl rfl ?_
              refine JL_loadA (vs := [_, _, _]) 2 ty35 rfl rfl ⟨rfl, rfl, rfl, trivial⟩ ?_
              refine JL_guard_yes rfl rfl ?_
              refine JL_callF' (Asks.cons (holds_of_mem (by repeat (first | with_reducible exact mm0 | refine mmS ?_))) (Asks.cons (holds_of_mem (by repeat (first | with_reducible exact mm0 | refine mmS ?_))) (Asks.cons (holds_of_mem (by repeat (first | with_reducible exact mm0 | refine mmS ?_))) (Asks.cons (holds_of_mem (by repeat (first | with_reducible exact mm0 | refine mmS ?_))) Asks.nil)))) (in38T_con (FIn.some (hqx.mono (by decide))) (by omega) hqc hic) rfl ca16 ⟨rfl, rfl, rfl⟩ ?_
              rintro _ _ ⟨rfl, rfl⟩
              refine JL_guard_yes rfl rfl ?_
              refine JL_not rfl ?_
              rw [Bool.not_true]
              refine JL_pick_f rfl rfl ?_
              refine JL_move rfl ?_
              refine JL_guard_yes rfl rfl ?_
              refine JL_move rfl ?_
              refine JL_guard_yes rfl rfl ?_
              refine JL_loadA (vs := [_, _, _]) 2 ty35 rfl rfl ⟨rfl, rfl, rfl, trivial⟩ ?_
              refine JL_guard_yes rfl rfl ?_
              refine JL_callF' (Asks.cons (holds_of_mem (by repeat (first | with_reducible exact mm0 | refine mmS ?_))) (Asks.cons (holds_of_mem (by repeat (first | with_reducible exact mm0 | refine mmS ?_))) (Asks.cons (holds_of_mem (by repeat (first | with_reducible exact mm0 | refine mmS ?_))) (Asks.cons (holds_of_mem (by repeat (first | with_reducible exact mm0 | refine mmS ?_))) Asks.nil)))) (in38T_con (FIn.some (hqx.mono (by decide))) (by omega) hqd hid) rfl ca16 ⟨rfl, rfl, rfl⟩ ?_
              rintro _ _ ⟨rfl, rfl⟩
              refine JL_guard_yes rfl rfl ?_
              refine JL_not rfl ?_
              rw [Bool.not_true]
              refine JL_pick_f rfl rfl ?_
              refine JL_done_up 144 [box _ _ [_, _], box _ _ [_, _, _], box _ _ [_, _, _]] [_, _, _, _, _, _, _, _, _, _, _, _, _, _, _, _, _, _, _, _, _, _, _, _, _, _, _, _, _, _, _, _, _] rfl rfl (by simp only [nrmF]; rfl) rfl rfl ?_
              refine JC_false rfl ?_
              refine JC_skip ?_
              refine JE_block_normal ?_
              refine JE_then ?_
              refine JC_region ?_
              refine JL_add_to rfl rfl (IntWalk.i64_in _ (by omega)) ?_
              refine JL_move rfl ?_
              refine JL_nil_up 144 [box _ _ [_, _], box _ _ [_, _, _], box _ _ [_, _, _]] [_, _, _, _, _, _, _, _, _, _, _, _, _, _, _, _, _, _, _, _, _, _, _, _, _, _, _, _, _, _, _, _, _] rfl rfl (by simp only [nrmF]; rfl) rfl rfl ?_
              refine JE_dropAt 2 ?_
              refine JE_norm _ [box _ _ [_, _], box _ _ [_, _, _]] [_, _, _, _, _, _, _, _, _, _, _, _, _, _, _, _, _, _, _, _, _, _, _, _, _, _, _, _, _, _, _, _, _] rfl rfl rfl ?_
              refine JE_nextS (j + 1) (by kernel_rfl) ?_ ?_ (by kernel_rfl) ?_
              · exact (by omega : j + 1 ≤ 3)
              · first | omega | (dsimp only; omega)
              · exact subset_app subset_nil (ssS (ssS ss0))
            · refine JL_done_up 144 [box _ _ [_, _], box _ _ [_, _, _]] [_, _, _, _, _, _, _, _, _, _, _, _, _, _, _, _, _, _, _, _, _, _, _, _, _, _, _, _, _, _, _] rfl rfl (by simp only [nrmF]; rfl) rfl rfl ?_
              refine JC_seq ?_
              refine JC_false rfl ?_
              refine JC_exit ?_
              refine JE_then_exit ?_
              refine JE_nextS_exit ?_
              refine JE_block_exit ?_
              refine JE_block_normal ?_
              refine JE_then ?_
              refine JC_region ?_
              refine JL_move rfl ?_
              refine JL_add_to rfl rfl (IntWalk.i64_in _ (by omega)) ?_
              refine JL_assign rfl ?_
              refine JL_nil_up 144 [box _ _ [_, _], box _ _ [_, _, _]] [_, _, _, _, _, _, _, _, _, _, _, _, _, _, _, _, _, _, _, _, _, _, _, _, _, _, _, _, _, _, _] rfl rfl (by simp only [nrmF]; rfl) rfl rfl ?_
              refine JE_dropAt 1 ?_
              refine JE_norm _ [box _ _ [_, _]] [_, _, _, _, _, _, _, _, _, _, _, _, _, _, _, _, _, _, _, _, _, _, _, _, _, _, _, _, _, _, _] rfl rfl rfl ?_
              refine JE_nextS (i + 1) (by kernel_rfl) ?_ ?_ (by kernel_rfl) ?_
              · exact (by omega : i + 1 ≤ l41.length)
              · first | omega | (dsimp only; omega)
              · exact subset_app subset_nil (ssS (ssS (ssS (ssS (ssS (ssS (ssS (ssS (ssS (ssS (ssS (ssS (ssS (ssS ss0))))))))))))))
          · refine JL_done_up 144 [box _ _ [_, _]] [_, _, _, _, _, _, _, _, _, _, _, _, _, _, _, _, _] rfl rfl (by simp only [nrmF]; rfl) rfl rfl ?_
            refine JC_false rfl ?_
            refine JC_exit ?_
            refine JE_then_exit ?_
            refine JE_nextS_exit ?_
            refine JE_block_exit ?_
            refine JE_then ?_
            refine JC_seq ?_
            refine JC_region ?_
            refine JL_assign rfl ?_
            refine JL_done_up 144 [box _ _ [_, _]] [_, _, _, _, _, _, _, _, _, _, _, _, _, _, _, _, _] rfl rfl (by simp only [nrmF]; rfl) rfl rfl ?_
            refine JC_ret ?_
            refine JE_ret (vs := [_]) [] Tryd.results7 ⟨rfl, rfl⟩ ?_ ?_
            · exact ⟨rfl, rfl⟩
            · exact all_nil
  · refine JL_guard_yes rfl rfl ?_
    refine JL_not rfl ?_
    rw [Bool.not_false]
    refine JL_pick_f rfl rfl ?_
    refine JL_move rfl ?_
    refine JL_guard_no rfl rfl ?_
    refine JL_guard_no rfl rfl ?_
    refine JL_guard_no rfl rfl ?_
    refine JL_pick_t rfl rfl ?_
    refine JL_move rfl ?_
    refine JL_guard_no rfl rfl ?_
    refine JL_guard_no rfl rfl ?_
    refine JL_guard_no rfl rfl ?_
    refine JL_pick_t rfl rfl ?_
    refine JL_done_up 144 [box _ _ [_, _]] [_, _, _] rfl rfl (by simp only [nrmF]; rfl) rfl rfl ?_
    refine JC_true rfl ?_
    refine JC_seq ?_
    refine JC_region ?_
    refine JL_callF' (Asks.cons (holds_of_mem (by repeat (first | with_reducible exact mm0 | refine mmS ?_))) Asks.nil) (awake38_con) rfl ca9 rfl ?_
    rintro _ _ ⟨rfl, rfl⟩
    refine JL_assign rfl ?_
    refine JL_done_up 144 [box _ _ [_, _]] [_, _, _] rfl rfl (by simp only [nrmF]; rfl) rfl rfl ?_
    refine JC_ret ?_
    refine JE_then_ret ?_
    refine JE_ret (vs := [_]) [] Tryd.results7 ⟨rfl, rfl⟩ ?_ ?_
    · exact ⟨rfl, rfl⟩
    · exact all_nil

end Go.Fw.K
