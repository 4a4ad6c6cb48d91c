/- Walks through functions of the given program: each meets its contract. (Printed by a program of this repo.) -/
import Derived.Test.YtjolkfkekeolcaaDoorS7
import Derived.Test.YtjolkfkekeolcaaDoorS10
import Derived.Test.YtjolkfkekeolcaaDoorStdF
import Derived.Test.YtjolkfkekeolcaaDoorProg
namespace Go.Fw.T4
open Go Go.RowKit Go.Proofs Go.Nat9 Go.Fw
attribute [local irreducible] JC JL JE
theorem ca13 : callable Tryd.prog 13 = true := by kernel_rfl
theorem ca22 : callable Tryd.prog 22 = true := by kernel_rfl
theorem ca23 : callable Tryd.prog 23 = true := by kernel_rfl
theorem ca25 : callable Tryd.prog 25 = true := by kernel_rfl
theorem ca26 : callable Tryd.prog 26 = true := by kernel_rfl
theorem ca9 : callable Tryd.prog 9 = true := by kernel_rfl
theorem fo23_0 : fOf Tryd.prog 23 0 = some 0 := by kernel_rfl
theorem fo23_1 : fOf Tryd.prog 23 1 = some 1 := by kernel_rfl
theorem mixed : Tryd.prog.follows .mixedOrders = true := by kernel_rfl
theorem sl54 : slOf Tryd.prog 54 = some (3, 1, 8, [.int .i64 0]) := by kernel_rfl
theorem sl61 : slOf Tryd.prog 61 = some (35, 3, 56, [.bool false, .slice none 0 0, .slice none 0 0]) := by kernel_rfl
theorem ty3 : tyOf Tryd.prog 3 = some (false, 1) := by kernel_rfl
theorem ty35 : tyOf Tryd.prog 35 = some (true, 3) := by kernel_rfl
theorem ub4 : Tryd.prog.underlying 4 = some .bool := by kernel_rfl
theorem z35 : zeroOf Tryd.prog 35 = some [.bool false, .slice none 0 0, .slice none 0 0] := by kernel_rfl
end Go.Fw.T4
namespace Go.Fw.K
open Go Go.RowKit Go.Proofs Go.Nat9 Go.Fw Go.Fw.T4
attribute [local irreducible] JC JL JE

theorem fewT_con {adw ad3 : Option Addr} {nw cw c3 : Nat} {l : List Fi} (hn3 : l.length ≤ 9223372036854775807) (h : fewB nw l = true) : ConF Tryd.prog 13 [.slice adw nw cw, .slice ad3 l.length c3] [vCells ad3 (rcells l)] (fun v φo => v = .bool true ∧ φo = []) := by
  rw [← h]
  exact fewB_con hn3
theorem fewF_con {adw ad3 : Option Addr} {nw cw c3 : Nat} {l : List Fi} (hn3 : l.length ≤ 9223372036854775807) (h : fewB nw l = false) : ConF Tryd.prog 13 [.slice adw nw cw, .slice ad3 l.length c3] [vCells ad3 (rcells l)] (fun v φo => v = .bool false ∧ φo = []) := by
  rw [← h]
  exact fewB_con hn3


set_option maxHeartbeats 4000000 in
theorem standardErrors_con {ad0 : Option Addr} {c0 : Nat} {L : List Int} {s1 : Bool} {ad1 : Option Addr} {n1 c1 : Nat} {L1 : List Nat} {be1 : Option Addr} {m1 e1 : Nat} {M1 : List Nat} (r1 : RIn n1 L1 m1 M1) {tol m : Int} (htol1 : -9223372036854775808 ≤ tol) (htol2 : tol ≤ 9223372036854775807) (hm1 : -9223372036854775808 ≤ m) (hm2 : m ≤ 9223372036854775807) :
    ConF Tryd.prog 6 [.slice ad0 L.length c0, .agg #[.bool s1, .slice ad1 n1 c1, .slice be1 m1 e1], .agg #[.int .i64 tol, .int .i64 m]] [vCells ad0 (i64s L), vCells ad1 (u32s L1), vCells be1 (u32s M1), vTab]
      (fun v φo => v = .bool true ∧ φo = []) := by
  have _ := htol1
  have _ := htol2
  have _ := hm1
  have _ := hm2
  refine ConF_of Tryd.func6 rfl 62 _ rfl rfl ?_
  intro w0
  refine JC_norm ⟨62, [], [_, _, _, _, _, _, _, _, _, _, _, _, _, _, _, _, _, _, _, _, _, _, _, _, _, _, _, _, _, _, _, _, _, _, _, _, _, _, _, _, _, _, _, _, _, _, _, _, _, _, _, _, _, _, _, _, _, _, _, _, _, _]⟩ [] [_, _, _, _] rfl rfl rfl ?_
  refine JC_seq ?_
  refine JC_region ?_
  refine JL_box rfl rfl (fun b4 => ?_)
  refine JL_box rfl rfl (fun b5 => ?_)
  refine JL_assign rfl ?_
  refine JL_done_up 62 [box _ _ [_, _, _], box _ _ [_, _]] [_, _, _, _] rfl rfl (by simp only [nrmF]; rfl) rfl rfl ?_
  refine JC_seq ?_
  refine JC_seq ?_
  rcases hfw : fewB L.length [⟨s1, ad1, n1, c1, L1, be1, m1, e1, M1⟩] with _ | _
  · refine JC_drawT mixed 12 [spC 11 [] _, spV 12 [0] _, spV 13 [1] _, spV 14 [2] _, spV 15 [2] _, spC 16 [2, 4] (fun v φo => ∃ g : Nat, v = .slice (some ⟨g, 0, none⟩) 1 1 ∧ φo = [vCells (some ⟨g, 0, none⟩) [.bool s1, .slice ad1 n1 c1, .slice be1 m1 e1]]), spC 17 [2, 3, 5] _, spV 18 [2, 6] _, spV 19 [2, 7] _, spV 20 [8] _, spV 21 [9] _, spV 22 [9] _] ⟨OblS_C (fun vals ex ψ => (by
        refine JL_normQ ⟨62, [(11, _), (12, _), (13, _), (14, _), (15, _), (16, _), (17, _), (18, _), (19, _), (20, _), (21, _), (22, _)], _⟩ (_ :: _ :: _ :: _ :: ψ) rfl rfl ?_
        refine JL_callF' (Asks.cons (holds_of_mem (by repeat (first | with_reducible exact mm0 | refine mmS ?_))) Asks.nil) (awake38_con) rfl ca9 rfl ?_
        exact fun v φo hP => JL_nil (JE_stepC φo rfl hP (fun p hp => mapB_l hp) (fun p hp => mapB_r (ss0 p hp))))), OblS_V (fun vals ex ψ => (by
        refine JL_normQ ⟨62, [(11, _), (12, _), (13, _), (14, _), (15, _), (16, _), (17, _), (18, _), (19, _), (20, _), (21, _), (22, _)], _⟩ (_ :: _ :: _ :: _ :: _ :: ψ) rfl rfl ?_
        generalize vals 0 = x11
        refine JL_usePost mm0 (fun φo hP => ?_)
        obtain ⟨rfl, rfl⟩ := hP
        refine JL_norm _ _ (_ :: _ :: _ :: _ :: _ :: ψ) rfl rfl rfl ?_
        refine JL_not rfl ?_
        rw [Bool.not_true]
        exact JL_nil (JE_stepV rfl ss0))), OblS_V (fun vals ex ψ => (by
        refine JL_normQ ⟨62, [(11, _), (12, _), (13, _), (14, _), (15, _), (16, _), (17, _), (18, _), (19, _), (20, _), (21, _), (22, _)], _⟩ (_ :: _ :: _ :: _ :: ψ) rfl rfl ?_
        refine JL_move rfl ?_
        exact JL_nil (JE_stepV rfl ss0))), OblS_V (fun vals ex ψ => (by
        refine JL_normQ ⟨62, [(11, _), (12, _), (13, _), (14, _), (15, _), (16, _), (17, _), (18, _), (19, _), (20, _), (21, _), (22, _)], _⟩ (_ :: _ :: _ :: _ :: ψ) rfl rfl ?_
        refine JL_guard_yes rfl rfl ?_
        refine JL_move rfl ?_
        exact JL_nil (JE_stepV rfl ss0))), OblS_V (fun vals ex ψ => (by
        refine JL_normQ ⟨62, [(11, _), (12, _), (13, _), (14, _), (15, _), (16, _), (17, _), (18, _), (19, _), (20, _), (21, _), (22, _)], _⟩ (_ :: _ :: _ :: _ :: ψ) rfl rfl ?_
        refine JL_guard_yes rfl rfl ?_
        refine JL_loadA (vs := [_, _, _]) 0 ty35 rfl rfl ⟨rfl, rfl, rfl, trivial⟩ ?_
        exact JL_nil (JE_stepV rfl ss0))), OblS_C (fun vals ex ψ => (by
        refine JL_normQ ⟨62, [(11, _), (12, _), (13, _), (14, _), (15, _), (16, _), (17, _), (18, _), (19, _), (20, _), (21, _), (22, _)], _⟩ (_ :: _ :: _ :: _ :: ψ) rfl rfl ?_
        refine JL_guard_yes rfl rfl ?_
        refine JL_buildN (cs0 := [.bool false, .slice none 0 0, .slice none 0 0]) (cs := [_, _, _]) [(0, [_, _, _])] sl61 (by kernel_rfl) ⟨⟨rfl, _, rfl, rfl⟩, rfl⟩ rfl rfl rfl rfl (fun g16 => ?_)
        refine JL_giveLast ?_
        exact JL_nil (JE_stepC [vCells (some ⟨g16, 0, none⟩) [.bool s1, .slice ad1 n1 c1, .slice be1 m1 e1]] rfl ⟨g16, rfl, rfl⟩ (all_cons (by repeat (first | with_reducible exact mm0 | refine mmS ?_)) all_nil) (ssS ss0)))), OblS_C (fun vals ex ψ => (by
        refine JL_normQ ⟨62, [(11, _), (12, _), (13, _), (14, _), (15, _), (16, _), (17, _), (18, _), (19, _), (20, _), (21, _), (22, _)], _⟩ (_ :: _ :: _ :: _ :: _ :: ψ) rfl rfl ?_
        generalize vals 5 = x16
        refine JL_usePost mm0 (fun φo hP => ?_)
        obtain ⟨g16, rfl, rfl⟩ := hP
        refine JL_norm _ _ (_ :: _ :: _ :: _ :: _ :: _ :: ψ) rfl rfl rfl ?_
        refine JL_guard_yes rfl rfl ?_
        refine JL_callF' (Asks.cons (holds_of_mem (by repeat (first | exact mm0 | refine mmS ?_))) Asks.nil) (fewF_con (l := [⟨s1, ad1, n1, c1, L1, be1, m1, e1, M1⟩]) (Nat.le_of_ble_eq_true rfl) hfw) rfl ca13 ⟨rfl, rfl, rfl⟩ ?_
        exact fun v φo hP => JL_nil (JE_stepC φo rfl hP (fun p hp => mapB_l hp) (fun p hp => mapB_r ((ssS ss0) p hp))))), OblS_V (fun vals ex ψ => (by
        refine JL_normQ ⟨62, [(11, _), (12, _), (13, _), (14, _), (15, _), (16, _), (17, _), (18, _), (19, _), (20, _), (21, _), (22, _)], _⟩ (_ :: _ :: _ :: _ :: _ :: ψ) rfl rfl ?_
        generalize vals 6 = x17
        refine JL_usePost mm0 (fun φo hP => ?_)
        obtain ⟨rfl, rfl⟩ := hP
        refine JL_norm _ _ (_ :: _ :: _ :: _ :: _ :: ψ) rfl rfl rfl ?_
        refine JL_guard_yes rfl rfl ?_
        refine JL_not rfl ?_
        rw [Bool.not_false]
        exact JL_nil (JE_stepV rfl ss0))), OblS_V (fun vals ex ψ => (by
        refine JL_normQ ⟨62, [(11, _), (12, _), (13, _), (14, _), (15, _), (16, _), (17, _), (18, _), (19, _), (20, _), (21, _), (22, _)], _⟩ (_ :: _ :: _ :: _ :: ψ) rfl rfl ?_
        refine JL_pick_f rfl rfl ?_
        exact JL_nil (JE_stepV rfl ss0))), OblS_V (fun vals ex ψ => (by
        refine JL_normQ ⟨62, [(11, _), (12, _), (13, _), (14, _), (15, _), (16, _), (17, _), (18, _), (19, _), (20, _), (21, _), (22, _)], _⟩ (_ :: _ :: _ :: _ :: ψ) rfl rfl ?_
        refine JL_move rfl ?_
        exact JL_nil (JE_stepV rfl ss0))), OblS_V (fun vals ex ψ => (by
        refine JL_normQ ⟨62, [(11, _), (12, _), (13, _), (14, _), (15, _), (16, _), (17, _), (18, _), (19, _), (20, _), (21, _), (22, _)], _⟩ (_ :: _ :: _ :: _ :: ψ) rfl rfl ?_
        refine JL_guard_no rfl rfl ?_
        exact JL_nil (JE_stepV rfl ss0))), OblS_V (fun vals ex ψ => (by
        refine JL_normQ ⟨62, [(11, _), (12, _), (13, _), (14, _), (15, _), (16, _), (17, _), (18, _), (19, _), (20, _), (21, _), (22, _)], _⟩ (_ :: _ :: _ :: _ :: ψ) rfl rfl ?_
        refine JL_guard_no rfl rfl ?_
        exact JL_nil (JE_stepV rfl ss0))), trivial⟩ (by kernel_rfl) (fun vals bs => ?_)
    refine JL_normL [_, _, _] ⟨62, [(11, _), (12, _), (13, _), (14, _), (15, _), (16, _), (17, _), (18, _), (19, _), (20, _), (21, _), (22, _)], _⟩ [box _ _ [_, _, _], box _ _ [_, _]] [_, _, _, _, _, _, _] rfl rfl rfl rfl ?_
    generalize vals 0 = x11
    generalize vals (0 + 1 + 1 + 1 + 1 + 1) = x16
    generalize vals (0 + 1 + 1 + 1 + 1 + 1 + 1) = x17
    refine JL_guard_no rfl rfl ?_
    refine JL_guard_no rfl rfl ?_
    refine JL_pick_t rfl rfl ?_
    refine JL_done_up 62 [box _ _ [_, _, _], box _ _ [_, _]] [_, _, _, _, _, _, _] rfl rfl (by simp only [nrmF]; rfl) rfl rfl ?_
    refine JC_true rfl ?_
    refine JC_seq ?_
    refine JC_region ?_
    refine JL_callF' (Asks.cons (holds_of_mem (by repeat (first | with_reducible exact mm0 | refine mmS ?_))) Asks.nil) (awake38_con) rfl ca9 rfl ?_
    rintro _ _ ⟨rfl, rfl⟩
    refine JL_assign rfl ?_
    refine JL_done_up 62 [box _ _ [_, _, _], box _ _ [_, _]] [_, _, _, _, _, _, _] rfl rfl (by simp only [nrmF]; rfl) rfl rfl ?_
    refine JC_ret ?_
    refine JE_then_ret ?_
    refine JE_ret (vs := [_]) [] Tryd.results6 ⟨rfl, rfl⟩ ?_ ?_
    · exact ⟨rfl, rfl⟩
    · exact all_nil
  · obtain ⟨_, _, hfx⟩ := of_decide_eq_true hfw
    obtain ⟨a1, b1⟩ : n1 ≤ 3 ∧ m1 ≤ 3 := hfx 0 (Nat.le_of_ble_eq_true rfl)
    have g1 := r1.fin (s := s1) (Nat.le_succ_of_le a1) (Nat.le_succ_of_le b1)
    obtain ⟨q1, hQ1⟩ : ∃ q, mkq s1 (val L1) (val M1) = q := ⟨_, rfl⟩
    rw [hQ1] at g1
    have hq3 : qs q1 4 := by rw [← hQ1]; exact raw_qs r1.u1 (by rw [r1.l1]; exact a1) r1.u2 (by rw [r1.l2]; exact b1)
    refine JC_drawT mixed 12 [spC 11 [] _, spV 12 [0] _, spV 13 [1] _, spV 14 [2] _, spV 15 [2] _, spC 16 [2, 4] (fun v φo => ∃ g : Nat, v = .slice (some ⟨g, 0, none⟩) 1 1 ∧ φo = [vCells (some ⟨g, 0, none⟩) [.bool s1, .slice ad1 n1 c1, .slice be1 m1 e1]]), spC 17 [2, 3, 5] _, spV 18 [2, 6] _, spV 19 [2, 7] _, spV 20 [8] _, spV 21 [9] _, spC 22 [9] _] ⟨OblS_C (fun vals ex ψ => (by
        refine JL_normQ ⟨62, [(11, _), (12, _), (13, _), (14, _), (15, _), (16, _), (17, _), (18, _), (19, _), (20, _), (21, _), (22, _)], _⟩ (_ :: _ :: _ :: _ :: ψ) rfl rfl ?_
        refine JL_callF' (Asks.cons (holds_of_mem (by repeat (first | with_reducible exact mm0 | refine mmS ?_))) Asks.nil) (awake38_con) rfl ca9 rfl ?_
        exact fun v φo hP => JL_nil (JE_stepC φo rfl hP (fun p hp => mapB_l hp) (fun p hp => mapB_r (ss0 p hp))))), OblS_V (fun vals ex ψ => (by
        refine JL_normQ ⟨62, [(11, _), (12, _), (13, _), (14, _), (15, _), (16, _), (17, _), (18, _), (19, _), (20, _), (21, _), (22, _)], _⟩ (_ :: _ :: _ :: _ :: _ :: ψ) rfl rfl ?_
        generalize vals 0 = x11
        refine JL_usePost mm0 (fun φo hP => ?_)
        obtain ⟨rfl, rfl⟩ := hP
        refine JL_norm _ _ (_ :: _ :: _ :: _ :: _ :: ψ) rfl rfl rfl ?_
        refine JL_not rfl ?_
        rw [Bool.not_true]
        exact JL_nil (JE_stepV rfl ss0))), OblS_V (fun vals ex ψ => (by
        refine JL_normQ ⟨62, [(11, _), (12, _), (13, _), (14, _), (15, _), (16, _), (17, _), (18, _), (19, _), (20, _), (21, _), (22, _)], _⟩ (_ :: _ :: _ :: _ :: ψ) rfl rfl ?_
        refine JL_move rfl ?_
        exact JL_nil (JE_stepV rfl ss0))), OblS_V (fun vals ex ψ => (by
        refine JL_normQ ⟨62, [(11, _), (12, _), (13, _), (14, _), (15, _), (16, _), (17, _), (18, _), (19, _), (20, _), (21, _), (22, _)], _⟩ (_ :: _ :: _ :: _ :: ψ) rfl rfl ?_
        refine JL_guard_yes rfl rfl ?_
        refine JL_move rfl ?_
        exact JL_nil (JE_stepV rfl ss0))), OblS_V (fun vals ex ψ => (by
        refine JL_normQ ⟨62, [(11, _), (12, _), (13, _), (14, _), (15, _), (16, _), (17, _), (18, _), (19, _), (20, _), (21, _), (22, _)], _⟩ (_ :: _ :: _ :: _ :: ψ) rfl rfl ?_
        refine JL_guard_yes rfl rfl ?_
        refine JL_loadA (vs := [_, _, _]) 0 ty35 rfl rfl ⟨rfl, rfl, rfl, trivial⟩ ?_
        exact JL_nil (JE_stepV rfl ss0))), OblS_C (fun vals ex ψ => (by
        refine JL_normQ ⟨62, [(11, _), (12, _), (13, _), (14, _), (15, _), (16, _), (17, _), (18, _), (19, _), (20, _), (21, _), (22, _)], _⟩ (_ :: _ :: _ :: _ :: ψ) rfl rfl ?_
        refine JL_guard_yes rfl rfl ?_
        refine JL_buildN (cs0 := [.bool false, .slice none 0 0, .slice none 0 0]) (cs := [_, _, _]) [(0, [_, _, _])] sl61 (by kernel_rfl) ⟨⟨rfl, _, rfl, rfl⟩, rfl⟩ rfl rfl rfl rfl (fun g16 => ?_)
        refine JL_giveLast ?_
        exact JL_nil (JE_stepC [vCells (some ⟨g16, 0, none⟩) [.bool s1, .slice ad1 n1 c1, .slice be1 m1 e1]] rfl ⟨g16, rfl, rfl⟩ (all_cons (by repeat (first | with_reducible exact mm0 | refine mmS ?_)) all_nil) (ssS ss0)))), OblS_C (fun vals ex ψ => (by
        refine JL_normQ ⟨62, [(11, _), (12, _), (13, _), (14, _), (15, _), (16, _), (17, _), (18, _), (19, _), (20, _), (21, _), (22, _)], _⟩ (_ :: _ :: _ :: _ :: _ :: ψ) rfl rfl ?_
        generalize vals 5 = x16
        refine JL_usePost mm0 (fun φo hP => ?_)
        obtain ⟨g16, rfl, rfl⟩ := hP
        refine JL_norm _ _ (_ :: _ :: _ :: _ :: _ :: _ :: ψ) rfl rfl rfl ?_
        refine JL_guard_yes rfl rfl ?_
        refine JL_callF' (Asks.cons (holds_of_mem (by repeat (first | exact mm0 | refine mmS ?_))) Asks.nil) (fewT_con (l := [⟨s1, ad1, n1, c1, L1, be1, m1, e1, M1⟩]) (Nat.le_of_ble_eq_true rfl) hfw) rfl ca13 ⟨rfl, rfl, rfl⟩ ?_
        exact fun v φo hP => JL_nil (JE_stepC φo rfl hP (fun p hp => mapB_l hp) (fun p hp => mapB_r ((ssS ss0) p hp))))), OblS_V (fun vals ex ψ => (by
        refine JL_normQ ⟨62, [(11, _), (12, _), (13, _), (14, _), (15, _), (16, _), (17, _), (18, _), (19, _), (20, _), (21, _), (22, _)], _⟩ (_ :: _ :: _ :: _ :: _ :: ψ) rfl rfl ?_
        generalize vals 6 = x17
        refine JL_usePost mm0 (fun φo hP => ?_)
        obtain ⟨rfl, rfl⟩ := hP
        refine JL_norm _ _ (_ :: _ :: _ :: _ :: _ :: ψ) rfl rfl rfl ?_
        refine JL_guard_yes rfl rfl ?_
        refine JL_not rfl ?_
        rw [Bool.not_true]
        exact JL_nil (JE_stepV rfl ss0))), OblS_V (fun vals ex ψ => (by
        refine JL_normQ ⟨62, [(11, _), (12, _), (13, _), (14, _), (15, _), (16, _), (17, _), (18, _), (19, _), (20, _), (21, _), (22, _)], _⟩ (_ :: _ :: _ :: _ :: ψ) rfl rfl ?_
        refine JL_pick_f rfl rfl ?_
        exact JL_nil (JE_stepV rfl ss0))), OblS_V (fun vals ex ψ => (by
        refine JL_normQ ⟨62, [(11, _), (12, _), (13, _), (14, _), (15, _), (16, _), (17, _), (18, _), (19, _), (20, _), (21, _), (22, _)], _⟩ (_ :: _ :: _ :: _ :: ψ) rfl rfl ?_
        refine JL_move rfl ?_
        exact JL_nil (JE_stepV rfl ss0))), OblS_V (fun vals ex ψ => (by
        refine JL_normQ ⟨62, [(11, _), (12, _), (13, _), (14, _), (15, _), (16, _), (17, _), (18, _), (19, _), (20, _), (21, _), (22, _)], _⟩ (_ :: _ :: _ :: _ :: ψ) rfl rfl ?_
        refine JL_guard_yes rfl rfl ?_
        refine JL_loadA (vs := [_, _, _]) 0 ty35 rfl rfl ⟨rfl, rfl, rfl, trivial⟩ ?_
        exact JL_nil (JE_stepV rfl ss0))), OblS_C (fun vals ex ψ => (by
        refine JL_normQ ⟨62, [(11, _), (12, _), (13, _), (14, _), (15, _), (16, _), (17, _), (18, _), (19, _), (20, _), (21, _), (22, _)], _⟩ (_ :: _ :: _ :: _ :: ψ) rfl rfl ?_
        refine JL_guard_yes rfl rfl ?_
        refine JL_callF' Asks.nil (fofi_con 1 1 (by omega) (by omega)) rfl ca22 ⟨rfl, rfl, rfl⟩ ?_
        exact fun v φo hP => JL_nil (JE_stepC φo rfl hP (fun p hp => mapB_l hp) (fun p hp => mapB_r (ss0 p hp))))), trivial⟩ (by kernel_rfl) (fun vals bs => ?_)
    refine JL_normL [_, _, _] ⟨62, [(11, _), (12, _), (13, _), (14, _), (15, _), (16, _), (17, _), (18, _), (19, _), (20, _), (21, _), (22, _)], _⟩ [box _ _ [_, _, _], box _ _ [_, _]] [_, _, _, _, _, _, _, _] rfl rfl rfl rfl ?_
    generalize vals 0 = x11
    generalize vals (0 + 1 + 1 + 1 + 1 + 1) = x16
    generalize vals (0 + 1 + 1 + 1 + 1 + 1 + 1) = x17
    generalize vals (0 + 1 + 1 + 1 + 1 + 1 + 1 + 1 + 1 + 1 + 1 + 1) = x22
    refine JL_usePost (mmS (mmS (mmS mm0))) (fun φo hP => ?_)
    obtain ⟨ad22, cp22, be22, ce22, rfl, rfl⟩ := hP
    refine JL_norm _ [box _ _ [_, _, _], box _ _ [_, _]] [_, _, _, _, _, _, _, _, _, _] rfl rfl rfl ?_
    refine JL_guard_yes rfl rfl ?_
    refine JL_callF' (Asks.cons (holds_of_mem (by repeat (first | with_reducible exact mm0 | refine mmS ?_))) (Asks.cons (holds_of_mem (by repeat (first | with_reducible exact mm0 | refine mmS ?_))) (Asks.cons (holds_of_mem (by repeat (first | with_reducible exact mm0 | refine mmS ?_))) (Asks.cons (holds_of_mem (by repeat (first | with_reducible exact mm0 | refine mmS ?_))) Asks.nil)))) (fcmpq_con (g1.mono (by decide)) (FIn.some (q := ofq 1 1) ((qs_ofi (by decide)).mono (by decide)))) rfl ca23 ⟨rfl, rfl, rfl⟩ ?_
    rintro _ _ ⟨rfl, rfl⟩
    refine JL_guard_yes rfl rfl ?_
    refine JL_lss rfl rfl ?_
    refine JL_pick_f rfl rfl ?_
    refine JL_done_up 62 [box _ _ [_, _, _], box _ _ [_, _]] [_, _, _, _, _, _, _, _, _, _] rfl rfl (by simp only [nrmF]; rfl) rfl rfl ?_
    refine JC_cond rfl (fun hb => ?_) (fun hb => ?_)
    · have h25 := of_decide_eq_true hb
      refine JC_seq ?_
      refine JC_region ?_
      refine JL_callF' (Asks.cons (holds_of_mem (by repeat (first | with_reducible exact mm0 | refine mmS ?_))) Asks.nil) (awake38_con) rfl ca9 rfl ?_
      rintro _ _ ⟨rfl, rfl⟩
      refine JL_assign rfl ?_
      refine JL_done_up 62 [box _ _ [_, _, _], box _ _ [_, _]] [_, _, _, _, _, _, _, _, _, _] rfl rfl (by simp only [nrmF]; rfl) rfl rfl ?_
      refine JC_ret ?_
      refine JE_then_ret ?_
      refine JE_ret (vs := [_]) [] Tryd.results6 ⟨rfl, rfl⟩ ?_ ?_
      · exact ⟨rfl, rfl⟩
      · exact all_nil
    · have h25 := of_decide_eq_false hb
      refine JC_skip ?_
      refine JE_then ?_
      refine JC_seq ?_
      refine JC_region ?_
      refine JL_move rfl ?_
      refine JL_loadA (vs := [_, _, _]) 0 ty35 rfl rfl ⟨rfl, rfl, rfl, trivial⟩ ?_
      refine JL_fieldAddr fo23_1 rfl ?_
      refine JL_load 1 ty3 rfl rfl rfl ?_
      refine JL_callF' (Asks.cons (holds_of_mem (by repeat (first | with_reducible exact mm0 | refine mmS ?_))) (Asks.cons (holds_of_mem (by repeat (first | with_reducible exact mm0 | refine mmS ?_))) (Asks.cons (holds_of_mem (by repeat (first | with_reducible exact mm0 | refine mmS ?_))) Asks.nil))) (ierror_con (m := m) g1) rfl ca25 ⟨rfl, rfl, rfl, rfl⟩ ?_
      rintro _ _ ⟨ad32, cp32, be32, ce32, rfl, rfl⟩
      refine JL_move rfl ?_
      refine JL_extract rfl rfl ?_
      refine JL_extract rfl rfl ?_
      refine JL_alloc z35 (fun b7 => ?_)
      refine JL_store (vs := [_, _, _]) 2 ty35 rfl rfl rfl (AllOne.cons rfl (AllOne.cons rfl (AllOne.cons rfl AllOne.nil))) rfl (Nat.le_of_ble_eq_true rfl) ?_
      refine JL_assign rfl ?_
      refine JL_done_up 62 [box _ _ [_, _, _], box _ _ [_, _], box _ _ [_, _, _]] [_, _, _, _, _, _, _, _, _, _, _, _] rfl rfl (by simp only [nrmF]; rfl) rfl rfl ?_
      refine JC_seq ?_
      refine JC_region ?_
      refine JL_move rfl ?_
      refine JL_loadA (vs := [_, _, _]) 0 ty35 rfl rfl ⟨rfl, rfl, rfl, trivial⟩ ?_
      refine JL_fieldAddr fo23_0 rfl ?_
      refine JL_load 1 ty3 rfl rfl rfl ?_
      refine JL_fieldAddr fo23_1 rfl ?_
      refine JL_load 1 ty3 rfl rfl rfl ?_
      refine JL_callF' (Asks.cons (holds_of_mem (by repeat (first | with_reducible exact mm0 | refine mmS ?_))) (Asks.cons (holds_of_mem (by repeat (first | with_reducible exact mm0 | refine mmS ?_))) (Asks.cons (holds_of_mem (by repeat (first | with_reducible exact mm0 | refine mmS ?_))) Asks.nil))) (iscore_con (tol := tol) (m := m) (g1.mono (by decide))) rfl ca26 ⟨rfl, rfl, rfl, rfl, rfl⟩ ?_
      rintro _ _ ⟨rfl, rfl⟩
      refine JL_move rfl ?_
      refine JL_extract rfl rfl ?_
      refine JL_extract rfl rfl ?_
      refine JL_assign rfl ?_
      refine JL_assign rfl ?_
      refine JL_done_up 62 [box _ _ [_, _, _], box _ _ [_, _], box _ _ [_, _, _]] [_, _, _, _, _, _, _, _, _, _, _, _] rfl rfl (by simp only [nrmF]; rfl) rfl rfl ?_
      refine JC_seq ?_
      refine JC_seq ?_
      refine JC_region ?_
      refine JL_move rfl ?_
      refine JL_neq rfl rfl ?_
      refine JL_split (fun h46 => ?_) (fun h46 => ?_)
      · refine JL_move rfl ?_
        refine JL_guard_no rfl rfl ?_
        refine JL_guard_no rfl rfl ?_
        refine JL_pick_t rfl rfl ?_
        refine JL_done_up 62 [box _ _ [_, _, _], box _ _ [_, _], box _ _ [_, _, _]] [_, _, _, _, _, _, _, _, _, _, _, _] rfl rfl (by simp only [nrmF]; rfl) rfl rfl ?_
        refine JC_true rfl ?_
        refine JC_seq ?_
        refine JC_region ?_
        refine JL_assign rfl ?_
        refine JL_done_up 62 [box _ _ [_, _, _], box _ _ [_, _], box _ _ [_, _, _]] [_, _, _, _, _, _, _, _, _, _, _, _] rfl rfl (by simp only [nrmF]; rfl) rfl rfl ?_
        refine JC_ret ?_
        refine JE_then_ret ?_
        refine JE_ret (vs := [_]) [] Tryd.results6 ⟨rfl, rfl⟩ ?_ ?_
        · exact ⟨rfl, rfl⟩
        · exact all_nil
      · refine JL_move rfl ?_
        refine JL_guard_yes rfl rfl ?_
        refine JL_move rfl ?_
        refine JL_guard_yes rfl rfl ?_
        refine JL_neq rfl rfl ?_
        refine JL_split (fun h49 => ?_) (fun h49 => ?_)
        · refine JL_pick_f rfl rfl ?_
          refine JL_done_up 62 [box _ _ [_, _, _], box _ _ [_, _], box _ _ [_, _, _]] [_, _, _, _, _, _, _, _, _, _, _, _] rfl rfl (by simp only [nrmF]; rfl) rfl rfl ?_
          refine JC_true rfl ?_
          refine JC_seq ?_
          refine JC_region ?_
          refine JL_assign rfl ?_
          refine JL_done_up 62 [box _ _ [_, _, _], box _ _ [_, _], box _ _ [_, _, _]] [_, _, _, _, _, _, _, _, _, _, _, _] rfl rfl (by simp only [nrmF]; rfl) rfl rfl ?_
          refine JC_ret ?_
          refine JE_then_ret ?_
          refine JE_ret (vs := [_]) [] Tryd.results6 ⟨rfl, rfl⟩ ?_ ?_
          · exact ⟨rfl, rfl⟩
          · exact all_nil
        · refine JL_pick_f rfl rfl ?_
          refine JL_done_up 62 [box _ _ [_, _, _], box _ _ [_, _], box _ _ [_, _, _]] [_, _, _, _, _, _, _, _, _, _, _, _] rfl rfl (by simp only [nrmF]; rfl) rfl rfl ?_
          refine JC_false rfl ?_
          refine JC_skip ?_
          refine JE_then ?_
          refine JC_seq ?_
          have he0 : errE L q1 m = 0 := Classical.byContradiction h46
          have hs0 : scoE L q1 tol m = 0 := Classical.byContradiction h49
          rw [errO_ok he0, scoK_ok hs0]
          have h1u : 1 ≤ q1 := by have e := Rat.not_lt.1 (fun e => h25 (cmpQ_neg.2 e)); rwa [show ofq 1 1 = 1 from by decide +kernel] at e
          have hck : chkE L = 0 := Classical.byContradiction fun e => e (by rw [errE_chk e] at he0; exact he0)
          obtain ⟨hn64, hws⟩ := chkE_zero hck
          have hu0 : 0 < q1 := lt_le (by decide) h1u
          have hlim : limOk tol m := limE_zero.1 (by rw [← scoE_lim (L := L) (fun e => e hck) hu0]; exact hs0)
          have hqe := qs_errR (L := L) hws (hq3.mono (by decide)) hlim.2.2 (Nat.le_refl _)
          have hiff := errors_ok hs0 h1u
          refine JC_drawT mixed 10 [spV 51 [] _, spV 52 [] _, spV 53 [1] _, spC 54 [2] _, spC 55 [0, 3] _, spV 56 [4] _, spV 57 [] _, spV 58 [] _, spV 59 [7] _, spV 60 [6, 8] _] ⟨OblS_V (fun vals ex ψ => (by
              refine JL_normQ ⟨62, [(51, _), (52, _), (53, _), (54, _), (55, _), (56, _), (57, _), (58, _), (59, _), (60, _)], _⟩ (_ :: _ :: _ :: _ :: _ :: _ :: _ :: _ :: _ :: _ :: _ :: _ :: ψ) rfl rfl ?_
              refine JL_loadA (vs := [_, _, _]) 2 ty35 rfl rfl ⟨rfl, rfl, rfl, trivial⟩ ?_
              exact JL_nil (JE_stepV rfl ss0))), OblS_V (fun vals ex ψ => (by
              refine JL_normQ ⟨62, [(51, _), (52, _), (53, _), (54, _), (55, _), (56, _), (57, _), (58, _), (59, _), (60, _)], _⟩ (_ :: _ :: _ :: _ :: _ :: _ :: _ :: _ :: _ :: _ :: _ :: _ :: ψ) rfl rfl ?_
              refine JL_fieldAddr fo23_0 rfl ?_
              exact JL_nil (JE_stepV rfl ss0))), OblS_V (fun vals ex ψ => (by
              refine JL_normQ ⟨62, [(51, _), (52, _), (53, _), (54, _), (55, _), (56, _), (57, _), (58, _), (59, _), (60, _)], _⟩ (_ :: _ :: _ :: _ :: _ :: _ :: _ :: _ :: _ :: _ :: _ :: _ :: ψ) rfl rfl ?_
              refine JL_load 1 ty3 rfl rfl rfl ?_
              exact JL_nil (JE_stepV rfl ss0))), OblS_C (fun vals ex ψ => (by
              refine JL_normQ ⟨62, [(51, _), (52, _), (53, _), (54, _), (55, _), (56, _), (57, _), (58, _), (59, _), (60, _)], _⟩ (_ :: _ :: _ :: _ :: _ :: _ :: _ :: _ :: _ :: _ :: _ :: _ :: ψ) rfl rfl ?_
              refine JL_callF' Asks.nil (fofi_con tol 1 (by omega) (by omega)) rfl ca22 ⟨rfl, rfl, rfl⟩ ?_
              exact fun v φo hP => JL_nil (JE_stepC φo rfl hP (fun p hp => mapB_l hp) (fun p hp => mapB_r (ss0 p hp))))), OblS_C (fun vals ex ψ => (by
              refine JL_normQ ⟨62, [(51, _), (52, _), (53, _), (54, _), (55, _), (56, _), (57, _), (58, _), (59, _), (60, _)], _⟩ (_ :: _ :: _ :: _ :: _ :: _ :: _ :: _ :: _ :: _ :: _ :: _ :: _ :: ψ) rfl rfl ?_
              generalize vals 3 = x54
              refine JL_usePost mm0 (fun φo hP => ?_)
              obtain ⟨ad54, cp54, be54, ce54, rfl, rfl⟩ := hP
              refine JL_norm _ _ (_ :: _ :: _ :: _ :: _ :: _ :: _ :: _ :: _ :: _ :: _ :: _ :: _ :: _ :: _ :: ψ) rfl rfl rfl ?_
              refine JL_callF' (Asks.cons (holds_of_mem (by repeat (first | with_reducible exact mm0 | refine mmS ?_))) (Asks.cons (holds_of_mem (by repeat (first | with_reducible exact mm0 | refine mmS ?_))) (Asks.cons (holds_of_mem (by repeat (first | with_reducible exact mm0 | refine mmS ?_))) (Asks.cons (holds_of_mem (by repeat (first | with_reducible exact mm0 | refine mmS ?_))) Asks.nil)))) (fcmpq_con (FIn.some (hqe.mono (by decide))) (FIn.some (q := ofq tol 1) ((qs_ofi (by omega)).mono (by decide)))) rfl ca23 ⟨rfl, rfl, rfl⟩ ?_
              exact fun v φo hP => JL_nil (JE_stepC φo rfl hP (fun p hp => mapB_l hp) (fun p hp => mapB_r ((ssS (ssS ss0)) p hp))))), OblS_V (fun vals ex ψ => (by
              refine JL_normQ ⟨62, [(51, _), (52, _), (53, _), (54, _), (55, _), (56, _), (57, _), (58, _), (59, _), (60, _)], _⟩ (_ :: _ :: _ :: _ :: _ :: _ :: _ :: _ :: _ :: _ :: _ :: _ :: _ :: ψ) rfl rfl ?_
              generalize vals 4 = x55
              refine JL_usePost mm0 (fun φo hP => ?_)
              obtain ⟨rfl, rfl⟩ := hP
              refine JL_norm _ _ (_ :: _ :: _ :: _ :: _ :: _ :: _ :: _ :: _ :: _ :: _ :: _ :: _ :: ψ) rfl rfl rfl ?_
              refine JL_leq rfl rfl ?_
              exact JL_nil (JE_stepV rfl ss0))), OblS_V (fun vals ex ψ => (by
              refine JL_normQ ⟨62, [(51, _), (52, _), (53, _), (54, _), (55, _), (56, _), (57, _), (58, _), (59, _), (60, _)], _⟩ (_ :: _ :: _ :: _ :: _ :: _ :: _ :: _ :: _ :: _ :: _ :: _ :: ψ) rfl rfl ?_
              refine JL_move rfl ?_
              exact JL_nil (JE_stepV rfl ss0))), OblS_V (fun vals ex ψ => (by
              refine JL_normQ ⟨62, [(51, _), (52, _), (53, _), (54, _), (55, _), (56, _), (57, _), (58, _), (59, _), (60, _)], _⟩ (_ :: _ :: _ :: _ :: _ :: _ :: _ :: _ :: _ :: _ :: _ :: _ :: ψ) rfl rfl ?_
              refine JL_move rfl ?_
              exact JL_nil (JE_stepV rfl ss0))), OblS_V (fun vals ex ψ => (by
              refine JL_normQ ⟨62, [(51, _), (52, _), (53, _), (54, _), (55, _), (56, _), (57, _), (58, _), (59, _), (60, _)], _⟩ (_ :: _ :: _ :: _ :: _ :: _ :: _ :: _ :: _ :: _ :: _ :: _ :: ψ) rfl rfl ?_
              refine JL_len sl54 rfl ?_
              exact JL_nil (JE_stepV rfl ss0))), OblS_V (fun vals ex ψ => (by
              refine JL_normQ ⟨62, [(51, _), (52, _), (53, _), (54, _), (55, _), (56, _), (57, _), (58, _), (59, _), (60, _)], _⟩ (_ :: _ :: _ :: _ :: _ :: _ :: _ :: _ :: _ :: _ :: _ :: _ :: ψ) rfl rfl ?_
              refine JL_eql rfl rfl ?_
              exact JL_nil (JE_stepV rfl ss0))), trivial⟩ (by kernel_rfl) (fun vals bs => ?_)
          refine JL_normL [_, _] ⟨62, [(51, _), (52, _), (53, _), (54, _), (55, _), (56, _), (57, _), (58, _), (59, _), (60, _)], _⟩ [box _ _ [_, _, _], box _ _ [_, _], box _ _ [_, _, _]] [_, _, _, _, _, _, _, _, _, _, _, _, _, _] rfl rfl rfl rfl ?_
          generalize vals (0 + 1 + 1 + 1) = x54
          generalize vals (0 + 1 + 1 + 1 + 1) = x55
          refine JL_eqlB ub4 rfl rfl ?_
          rw [decide_eq_decide.2 hiff, beq_self_eq_true]
          refine JL_assign rfl ?_
          refine JL_done_up 62 [box _ _ [_, _, _], box _ _ [_, _], box _ _ [_, _, _]] [_, _, _, _, _, _, _, _, _, _, _, _, _, _] rfl rfl (by simp only [nrmF]; rfl) rfl rfl ?_
          refine JC_ret ?_
          refine JE_ret (vs := [_]) [] Tryd.results6 ⟨rfl, rfl⟩ ?_ ?_
          · exact ⟨rfl, rfl⟩
          · exact all_nil

end Go.Fw.K
