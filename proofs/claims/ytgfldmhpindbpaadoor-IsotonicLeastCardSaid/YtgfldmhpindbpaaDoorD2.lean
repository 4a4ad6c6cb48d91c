/- Walks through functions of the given program: each meets its contract. (Printed by a program of this repo.) -/
import Derived.Test.YtgfldmhpindbpaaDoorIso
import Derived.Test.YtgfldmhpindbpaaDoorF
import Derived.Test.YtgfldmhpindbpaaDoorProg
namespace Go.Fw.D2
open Go Go.RowKit Go.Proofs Go.Nat9 Go.Fw
attribute [local irreducible] JC JL JE
theorem ca14 : callable Tryd.prog 14 = true := by kernel_rfl
theorem mixed : Tryd.prog.follows .mixedOrders = true := by kernel_rfl
theorem sl28 : slOf Tryd.prog 28 = some (36, 3, 56, [.bool false, .slice none 0 0, .slice none 0 0]) := by kernel_rfl
theorem ty36 : tyOf Tryd.prog 36 = some (true, 3) := by kernel_rfl
end Go.Fw.D2
namespace Go.Fw.K
open Go Go.RowKit Go.Proofs Go.Nat9 Go.Fw Go.Fw.D2
attribute [local irreducible] JC JL JE

set_option maxHeartbeats 1000000 in
theorem sorted_con {ad3 : Option Addr} {c3 : Nat} {l : List Fi} (hl : ∀ x ∈ l, x.ok 4) (hn3 : l.length ≤ 1000000) :
    ConA Tryd.prog 26 [.slice ad3 l.length c3] [vCells ad3 (rcells l), vFis l]
      (fun v φo => ∃ (ad : Option Addr) (c : Nat) (m : List Fi), v = .slice ad m.length c ∧ m.length = l.length ∧ (∀ x ∈ m, x ∈ l) ∧ Falls m ∧ φo = [vCells ad (rcells m), vFis m]) := by
  refine ConA_of Tryd.func26 rfl 50 _ rfl rfl ?_
  intro w0
  refine JC_norm ⟨50, [], [_, _, _, _, _, _, _, _, _, _, _, _, _, _, _, _, _, _, _, _, _, _, _, _, _, _, _, _, _, _, _, _, _, _, _, _, _, _, _, _, _, _, _, _, _, _, _, _, _, _]⟩ [] [_, _] rfl rfl rfl ?_
  refine JC_seq ?_
  refine JC_region ?_
  refine JL_assign rfl ?_
  refine JL_done_up 50 [] [_, _] rfl rfl (by simp only [nrmF]; rfl) rfl rfl ?_
  refine JC_seq ?_
  refine JC_region ?_
  refine JL_build0 sl28 (fun g6 => ?_)
  refine JL_move rfl ?_
  refine JL_append (news := rcells l) 0 sl28 rfl (by decide) rfl rfl rfl (rcells_length l) (Reads.view (by repeat (first | with_reducible exact mm0 | refine mmS ?_))) (rcells_one l) (by omega) (by omega) (fun ad8 cap8 hc8 => ?_)
  refine JL_norm _ [osl _ _ _ _ _ _] [_, _] rfl rfl rfl ?_
  rw [Nat.zero_add l.length, show ([] : List Value) ++ rcells l = rcells l from rfl]
  refine JL_assign rfl ?_
  refine JL_done_up 50 [osl _ _ _ _ _ _] [_, _] rfl rfl (by simp only [nrmF]; rfl) rfl rfl ?_
  refine JC_seq ?_
  refine JC_seq ?_
  refine JC_region ?_
  refine JL_assign rfl ?_
  refine JL_done_up 50 [osl _ _ _ _ _ _] [_, _] rfl rfl (by simp only [nrmF]; rfl) rfl rfl ?_
  refine JC_block ?_
  refine JC_loopS ((Nat) × (List Fi)) (fun (i, m) => i ≤ l.length ∧ m.length = l.length ∧ (∀ x ∈ m, x ∈ l) ∧ SortTo m i) (fun (i, m) => l.length - i) (fun u (i, m) => [none, none, none, none, some (.int .i64 (i : Nat)), some (u 5), none, none, none, some (u 9), some (u 10), some (u 11), some (u 12), some (u 13), some (u 14), some (u 15), some (u 16), some (u 17), some (u 18), some (u 19), some (u 20), some (u 21), some (u 22), some (u 23), some (u 24), some (u 25), some (u 26), some (u 27), some (u 28), some (u 29), some (u 30), some (u 31), some (u 32), some (u 33), some (u 34), some (u 35), some (u 36), some (u 37), some (u 38), some (u 39), some (u 40), some (u 41), some (u 42), some (u 43), some (u 44), some (u 45), some (u 46), some (u 47), some (u 48), none]) (fun (i, m) => [some (osl ad8 l.length cap8 36 3 (rcells m))]) (fun (i, m) => []) (0, l) (by kernel_rfl) ?_ (by kernel_rfl) ?_ ?_
  · exact ⟨Nat.zero_le _, rfl, fun _ h => h, fun a b _ h => absurd h (Nat.not_lt_zero b)⟩
  · exact subset_nil
  intro u i hC
  obtain ⟨i, m⟩ := i
  obtain ⟨hi, hm, hmem, hso⟩ := hC
  refine JC_norm ⟨50, [], [_, _, _, _, _, _, _, _, _, _, _, _, _, _, _, _, _, _, _, _, _, _, _, _, _, _, _, _, _, _, _, _, _, _, _, _, _, _, _, _, _, _, _, _, _, _, _, _, _, _]⟩ [osl _ _ _ _ _ _] [_, _] rfl rfl rfl ?_
  refine JC_seq ?_
  refine JC_seq ?_
  refine JC_region ?_
  refine JL_move rfl ?_
  refine JL_move rfl ?_
  refine JL_len sl28 rfl ?_
  refine JL_lss rfl rfl ?_
  refine JL_split (fun h12 => ?_) (fun h12 => ?_)
  · refine JL_done_up 50 [osl _ _ _ _ _ _] [_, _] rfl rfl (by simp only [nrmF]; rfl) rfl rfl ?_
    refine JC_true rfl ?_
    refine JC_skip ?_
    refine JE_then ?_
    refine JC_seq ?_
    refine JC_block ?_
    refine JC_seq ?_
    refine JC_region ?_
    refine JL_move rfl ?_
    refine JL_assign rfl ?_
    refine JL_done_up 50 [osl _ _ _ _ _ _] [_, _] rfl rfl (by simp only [nrmF]; rfl) rfl rfl ?_
    refine JC_block ?_
    refine JC_loopS ((Nat) × (List Fi)) (fun (k, m1) => k ≤ i ∧ m1.length = l.length ∧ (∀ x ∈ m1, x ∈ l) ∧ SortX m1 i k) (fun (k, m1) => k) (fun u (k, m1) => [none, none, none, none, none, some (.int .i64 (k : Nat)), none, none, none, none, none, none, none, none, none, none, some (u 16), some (u 17), some (u 18), some (u 19), some (u 20), some (u 21), some (u 22), some (u 23), some (u 24), some (u 25), some (u 26), some (u 27), some (u 28), some (u 29), some (u 30), some (u 31), some (u 32), some (u 33), some (u 34), some (u 35), some (u 36), some (u 37), some (u 38), some (u 39), some (u 40), some (u 41), some (u 42), some (u 43), some (u 44), some (u 45), some (u 46), some (u 47), some (u 48), none]) (fun (k, m1) => [some (osl ad8 l.length cap8 36 3 (rcells m1))]) (fun (k, m1) => []) (i, m) (by kernel_rfl) ?_ (by kernel_rfl) ?_ ?_
    · exact ⟨Nat.le_refl _, hm, hmem, SortX.start hso⟩
    · exact subset_nil
    intro u i hC
    obtain ⟨k, m1⟩ := i
    obtain ⟨hk, hm1, hme1, hsx⟩ := hC
    refine JC_norm ⟨50, [], [_, _, _, _, _, _, _, _, _, _, _, _, _, _, _, _, _, _, _, _, _, _, _, _, _, _, _, _, _, _, _, _, _, _, _, _, _, _, _, _, _, _, _, _, _, _, _, _, _, _]⟩ [osl _ _ _ _ _ _] [_, _] rfl rfl rfl ?_
    refine JC_seq ?_
    refine JC_seq ?_
    rcases Nat.eq_zero_or_pos k with h0 | h0
    · refine JC_drawT mixed 12 [spV 16 [] _, spV 17 [0] _, spV 18 [1] _, spV 19 [2] _, spV 20 [2] _, spV 21 [2, 3, 4] _, spV 22 [2, 5] _, spV 23 [2] _, spV 24 [2] _, spV 25 [2, 8] _, spV 26 [2, 7, 9] _, spV 27 [2, 10] _] ⟨OblS_V (fun vals ex ψ => (by
          refine JL_normQ ⟨50, [(16, _), (17, _), (18, _), (19, _), (20, _), (21, _), (22, _), (23, _), (24, _), (25, _), (26, _), (27, _)], _⟩ (_ :: _ :: ψ) rfl rfl ?_
          refine JL_move rfl ?_
          exact JL_nil (JE_stepV rfl ss0))), OblS_V (fun vals ex ψ => (by
          refine JL_normQ ⟨50, [(16, _), (17, _), (18, _), (19, _), (20, _), (21, _), (22, _), (23, _), (24, _), (25, _), (26, _), (27, _)], _⟩ (_ :: _ :: ψ) rfl rfl ?_
          refine JL_gtr rfl rfl ?_
          rw [decide_eq_false (by omega)]
          exact JL_nil (JE_stepV rfl ss0))), OblS_V (fun vals ex ψ => (by
          refine JL_normQ ⟨50, [(16, _), (17, _), (18, _), (19, _), (20, _), (21, _), (22, _), (23, _), (24, _), (25, _), (26, _), (27, _)], _⟩ (_ :: _ :: ψ) rfl rfl ?_
          refine JL_move rfl ?_
          exact JL_nil (JE_stepV rfl ss0))), OblS_V (fun vals ex ψ => (by
          refine JL_normQ ⟨50, [(16, _), (17, _), (18, _), (19, _), (20, _), (21, _), (22, _), (23, _), (24, _), (25, _), (26, _), (27, _)], _⟩ (_ :: _ :: ψ) rfl rfl ?_
          refine JL_guard_no rfl rfl ?_
          exact JL_nil (JE_stepV rfl ss0))), OblS_V (fun vals ex ψ => (by
          refine JL_normQ ⟨50, [(16, _), (17, _), (18, _), (19, _), (20, _), (21, _), (22, _), (23, _), (24, _), (25, _), (26, _), (27, _)], _⟩ (_ :: _ :: ψ) rfl rfl ?_
          refine JL_guard_no rfl rfl ?_
          exact JL_nil (JE_stepV rfl ss0))), OblS_V (fun vals ex ψ => (by
          refine JL_normQ ⟨50, [(16, _), (17, _), (18, _), (19, _), (20, _), (21, _), (22, _), (23, _), (24, _), (25, _), (26, _), (27, _)], _⟩ (_ :: _ :: ψ) rfl rfl ?_
          refine JL_guard_no rfl rfl ?_
          exact JL_nil (JE_stepV rfl ss0))), OblS_V (fun vals ex ψ => (by
          refine JL_normQ ⟨50, [(16, _), (17, _), (18, _), (19, _), (20, _), (21, _), (22, _), (23, _), (24, _), (25, _), (26, _), (27, _)], _⟩ (_ :: _ :: ψ) rfl rfl ?_
          refine JL_guard_no rfl rfl ?_
          exact JL_nil (JE_stepV rfl ss0))), OblS_V (fun vals ex ψ => (by
          refine JL_normQ ⟨50, [(16, _), (17, _), (18, _), (19, _), (20, _), (21, _), (22, _), (23, _), (24, _), (25, _), (26, _), (27, _)], _⟩ (_ :: _ :: ψ) rfl rfl ?_
          refine JL_guard_no rfl rfl ?_
          exact JL_nil (JE_stepV rfl ss0))), OblS_V (fun vals ex ψ => (by
          refine JL_normQ ⟨50, [(16, _), (17, _), (18, _), (19, _), (20, _), (21, _), (22, _), (23, _), (24, _), (25, _), (26, _), (27, _)], _⟩ (_ :: _ :: ψ) rfl rfl ?_
          refine JL_guard_no rfl rfl ?_
          exact JL_nil (JE_stepV rfl ss0))), OblS_V (fun vals ex ψ => (by
          refine JL_normQ ⟨50, [(16, _), (17, _), (18, _), (19, _), (20, _), (21, _), (22, _), (23, _), (24, _), (25, _), (26, _), (27, _)], _⟩ (_ :: _ :: ψ) rfl rfl ?_
          refine JL_guard_no rfl rfl ?_
          exact JL_nil (JE_stepV rfl ss0))), OblS_V (fun vals ex ψ => (by
          refine JL_normQ ⟨50, [(16, _), (17, _), (18, _), (19, _), (20, _), (21, _), (22, _), (23, _), (24, _), (25, _), (26, _), (27, _)], _⟩ (_ :: _ :: ψ) rfl rfl ?_
          refine JL_guard_no rfl rfl ?_
          exact JL_nil (JE_stepV rfl ss0))), OblS_V (fun vals ex ψ => (by
          refine JL_normQ ⟨50, [(16, _), (17, _), (18, _), (19, _), (20, _), (21, _), (22, _), (23, _), (24, _), (25, _), (26, _), (27, _)], _⟩ (_ :: _ :: ψ) rfl rfl ?_
          refine JL_guard_no rfl rfl ?_
          exact JL_nil (JE_stepV rfl ss0))), trivial⟩ (by kernel_rfl) (fun vals bs => ?_)
      refine JL_normL [_, _, _] ⟨50, [(16, _), (17, _), (18, _), (19, _), (20, _), (21, _), (22, _), (23, _), (24, _), (25, _), (26, _), (27, _)], _⟩ [osl _ _ _ _ _ _] [_, _] rfl rfl rfl rfl ?_
      refine JL_guard_no rfl rfl ?_
      refine JL_guard_no rfl rfl ?_
      refine JL_pick_f rfl rfl ?_
      refine JL_done_up 50 [osl _ _ _ _ _ _] [_, _] rfl rfl (by simp only [nrmF]; rfl) rfl rfl ?_
      refine JC_false rfl ?_
      refine JC_exit ?_
      refine JE_then_exit ?_
      refine JE_nextS_exit ?_
      refine JE_block_exit ?_
      refine JE_block_normal ?_
      refine JE_then ?_
      refine JC_region ?_
      refine JL_move rfl ?_
      refine JL_add_to rfl rfl (IntWalk.i64_in _ (by omega)) ?_
      refine JL_assign rfl ?_
      refine JL_nil_up 50 [osl _ _ _ _ _ _] [_, _] rfl rfl (by simp only [nrmF]; rfl) rfl rfl ?_
      refine JE_nextS (i + 1, m1) (by kernel_rfl) ?_ ?_ (by kernel_rfl) ?_
      · exact ⟨by omega, hm1, hme1, hsx.done (by first | exact .inl h0 | exact .inr (cmpQ_le.1 (by omega)))⟩
      · first | omega | (dsimp only; omega)
      · exact subset_app subset_nil ss0
    · have hxa := hl _ (hme1 _ (fi_mem (j := k) (by omega)))
      have hxb := hl _ (hme1 _ (fi_mem (j := k - 1) (by omega)))
      refine JC_fisGet (f := true) (l := l) (m1.getD k dI) (by repeat (first | with_reducible exact mm0 | refine mmS ?_)) (hme1 _ (fi_mem (by omega))) ?_
      refine JC_fisGet (f := true) (l := l) (m1.getD (k - 1) dI) (by repeat (first | with_reducible exact mm0 | refine mmS ?_)) (hme1 _ (fi_mem (by omega))) ?_
      refine JC_drawT mixed 12 [spV 16 [] _, spV 17 [0] _, spV 18 [1] _, spV 19 [2] _, spV 20 [2] _, spV 21 [2, 3, 4] _, spV 22 [2, 5] _, spV 23 [2] _, spV 24 [2] _, spV 25 [2, 8] _, spV 26 [2, 7, 9] _, spV 27 [2, 10] _] ⟨OblS_V (fun vals ex ψ => (by
          refine JL_normQ ⟨50, [(16, _), (17, _), (18, _), (19, _), (20, _), (21, _), (22, _), (23, _), (24, _), (25, _), (26, _), (27, _)], _⟩ (_ :: _ :: _ :: _ :: _ :: _ :: ψ) rfl rfl ?_
          refine JL_move rfl ?_
          exact JL_nil (JE_stepV rfl ss0))), OblS_V (fun vals ex ψ => (by
          refine JL_normQ ⟨50, [(16, _), (17, _), (18, _), (19, _), (20, _), (21, _), (22, _), (23, _), (24, _), (25, _), (26, _), (27, _)], _⟩ (_ :: _ :: _ :: _ :: _ :: _ :: ψ) rfl rfl ?_
          refine JL_gtr rfl rfl ?_
          rw [decide_eq_true (by omega)]
          exact JL_nil (JE_stepV rfl ss0))), OblS_V (fun vals ex ψ => (by
          refine JL_normQ ⟨50, [(16, _), (17, _), (18, _), (19, _), (20, _), (21, _), (22, _), (23, _), (24, _), (25, _), (26, _), (27, _)], _⟩ (_ :: _ :: _ :: _ :: _ :: _ :: ψ) rfl rfl ?_
          refine JL_move rfl ?_
          exact JL_nil (JE_stepV rfl ss0))), OblS_V (fun vals ex ψ => (by
          refine JL_normQ ⟨50, [(16, _), (17, _), (18, _), (19, _), (20, _), (21, _), (22, _), (23, _), (24, _), (25, _), (26, _), (27, _)], _⟩ (_ :: _ :: _ :: _ :: _ :: _ :: ψ) rfl rfl ?_
          refine JL_guard_yes rfl rfl ?_
          refine JL_move rfl ?_
          exact JL_nil (JE_stepV rfl ss0))), OblS_V (fun vals ex ψ => (by
          refine JL_normQ ⟨50, [(16, _), (17, _), (18, _), (19, _), (20, _), (21, _), (22, _), (23, _), (24, _), (25, _), (26, _), (27, _)], _⟩ (_ :: _ :: _ :: _ :: _ :: _ :: ψ) rfl rfl ?_
          refine JL_guard_yes rfl rfl ?_
          refine JL_move rfl ?_
          exact JL_nil (JE_stepV rfl ss0))), OblS_V (fun vals ex ψ => (by
          refine JL_normQ ⟨50, [(16, _), (17, _), (18, _), (19, _), (20, _), (21, _), (22, _), (23, _), (24, _), (25, _), (26, _), (27, _)], _⟩ (_ :: _ :: _ :: _ :: _ :: _ :: ψ) rfl rfl ?_
          refine JL_guard_yes rfl rfl ?_
          refine JL_indexAddr k sl28 rfl rfl rfl (by omega) (Reads.own 0 rfl) (by rw [rcells_length]; omega) ?_
          exact JL_nil (JE_stepV rfl ss0))), OblS_V (fun vals ex ψ => (by
          refine JL_normQ ⟨50, [(16, _), (17, _), (18, _), (19, _), (20, _), (21, _), (22, _), (23, _), (24, _), (25, _), (26, _), (27, _)], _⟩ (_ :: _ :: _ :: _ :: _ :: _ :: ψ) rfl rfl ?_
          refine JL_guard_yes rfl rfl ?_
          refine JL_loadEA (vs := [_, _, _]) ty36 (Nat.zero_lt_succ _) rfl (Reads.own 0 rfl) (rcells_getA (by omega)) ?_
          exact JL_nil (JE_stepV rfl ss0))), OblS_V (fun vals ex ψ => (by
          refine JL_normQ ⟨50, [(16, _), (17, _), (18, _), (19, _), (20, _), (21, _), (22, _), (23, _), (24, _), (25, _), (26, _), (27, _)], _⟩ (_ :: _ :: _ :: _ :: _ :: _ :: ψ) rfl rfl ?_
          refine JL_guard_yes rfl rfl ?_
          refine JL_move rfl ?_
          exact JL_nil (JE_stepV rfl ss0))), OblS_V (fun vals ex ψ => (by
          refine JL_normQ ⟨50, [(16, _), (17, _), (18, _), (19, _), (20, _), (21, _), (22, _), (23, _), (24, _), (25, _), (26, _), (27, _)], _⟩ (_ :: _ :: _ :: _ :: _ :: _ :: ψ) rfl rfl ?_
          refine JL_guard_yes rfl rfl ?_
          refine JL_move rfl ?_
          exact JL_nil (JE_stepV rfl ss0))), OblS_V (fun vals ex ψ => (by
          refine JL_normQ ⟨50, [(16, _), (17, _), (18, _), (19, _), (20, _), (21, _), (22, _), (23, _), (24, _), (25, _), (26, _), (27, _)], _⟩ (_ :: _ :: _ :: _ :: _ :: _ :: ψ) rfl rfl ?_
          refine JL_guard_yes rfl rfl ?_
          refine JL_sub_to rfl rfl (IntWalk.i64_in _ (by omega)) ?_
          rw [show ((k : Int) - 1 : Int) = ((k - 1 : Nat) : Int) from by omega]
          exact JL_nil (JE_stepV rfl ss0))), OblS_V (fun vals ex ψ => (by
          refine JL_normQ ⟨50, [(16, _), (17, _), (18, _), (19, _), (20, _), (21, _), (22, _), (23, _), (24, _), (25, _), (26, _), (27, _)], _⟩ (_ :: _ :: _ :: _ :: _ :: _ :: ψ) rfl rfl ?_
          refine JL_guard_yes rfl rfl ?_
          refine JL_indexAddr (k - 1) sl28 rfl rfl rfl (by omega) (Reads.own 0 rfl) (by rw [rcells_length]; omega) ?_
          exact JL_nil (JE_stepV rfl ss0))), OblS_V (fun vals ex ψ => (by
          refine JL_normQ ⟨50, [(16, _), (17, _), (18, _), (19, _), (20, _), (21, _), (22, _), (23, _), (24, _), (25, _), (26, _), (27, _)], _⟩ (_ :: _ :: _ :: _ :: _ :: _ :: ψ) rfl rfl ?_
          refine JL_guard_yes rfl rfl ?_
          refine JL_loadEA (vs := [_, _, _]) ty36 (Nat.zero_lt_succ _) rfl (Reads.own 0 rfl) (rcells_getA (by omega)) ?_
          exact JL_nil (JE_stepV rfl ss0))), trivial⟩ (by kernel_rfl) (fun vals bs => ?_)
      refine JL_normL [_, _, _] ⟨50, [(16, _), (17, _), (18, _), (19, _), (20, _), (21, _), (22, _), (23, _), (24, _), (25, _), (26, _), (27, _)], _⟩ [osl _ _ _ _ _ _] [_, _, _, _, _, _] rfl rfl rfl rfl ?_
      refine JL_guard_yes rfl rfl ?_
      refine JL_callF' (Asks.cons (by first | exact holds_of_mem (by repeat (first | with_reducible exact mm0 | refine mmS ?_)) | (exact holds_of_own 0 rfl)) (Asks.cons (by first | exact holds_of_mem (by repeat (first | with_reducible exact mm0 | refine mmS ?_)) | (exact holds_of_own 0 rfl)) (Asks.cons (by first | exact holds_of_mem (by repeat (first | with_reducible exact mm0 | refine mmS ?_)) | (exact holds_of_own 0 rfl)) (Asks.cons (by first | exact holds_of_mem (by repeat (first | with_reducible exact mm0 | refine mmS ?_)) | (exact holds_of_own 0 rfl)) Asks.nil)))) (fcmpq_con (hxa.mono (by decide)) (hxb.mono (by decide))) rfl ca14 ⟨rfl, rfl, rfl⟩ ?_
      rintro _ _ ⟨rfl, rfl⟩
      refine JL_guard_yes rfl rfl ?_
      refine JL_gtr rfl rfl ?_
      refine JL_split (fun h29 => ?_) (fun h29 => ?_)
      · refine JL_pick_t rfl rfl ?_
        refine JL_done_up 50 [osl _ _ _ _ _ _] [_, _, _, _, _, _] rfl rfl (by simp only [nrmF]; rfl) rfl rfl ?_
        refine JC_true rfl ?_
        refine JC_skip ?_
        refine JE_then ?_
        refine JC_seq ?_
        refine JC_block ?_
        refine JC_drawX mixed 15 [2, 3, 4] [([2, 3, 4], 5), ([2, 4], 4), ([2], 3), ([3, 4], 4), ([4], 3), ([], 2)] [spV 33 [] _, spV 34 [] _, spV 35 [] _, spV 36 [] _, spV 37 [3] _, spV 38 [] _, spV 39 [] _, spV 40 [6] _, spV 41 [5, 7] _, spV 42 [8] _, spV 43 [] _, spV 44 [] _, spV 45 [10, 11] _, spV 46 [12] _, spV 47 [0, 1] _] ⟨OblS_V (fun vals ex ψ => (by
            refine JL_normQ ⟨50, [(33, _), (34, _), (35, _), (36, _), (37, _), (38, _), (39, _), (40, _), (41, _), (42, _), (43, _), (44, _), (45, _), (46, _), (47, _)], _⟩ (_ :: _ :: _ :: _ :: _ :: _ :: ψ) rfl rfl ?_
            refine JL_move rfl ?_
            exact JL_nil (JE_stepV rfl ss0))), OblS_V (fun vals ex ψ => (by
            refine JL_normQ ⟨50, [(33, _), (34, _), (35, _), (36, _), (37, _), (38, _), (39, _), (40, _), (41, _), (42, _), (43, _), (44, _), (45, _), (46, _), (47, _)], _⟩ (_ :: _ :: _ :: _ :: _ :: _ :: ψ) rfl rfl ?_
            refine JL_move rfl ?_
            exact JL_nil (JE_stepV rfl ss0))), OblS_V (fun vals ex ψ => (by
            refine JL_normQ ⟨50, [(33, _), (34, _), (35, _), (36, _), (37, _), (38, _), (39, _), (40, _), (41, _), (42, _), (43, _), (44, _), (45, _), (46, _), (47, _)], _⟩ (_ :: _ :: _ :: _ :: _ :: _ :: ψ) rfl rfl ?_
            refine JL_move rfl ?_
            exact JL_nil (JE_stepV rfl ss0))), OblS_V (fun vals ex ψ => (by
            refine JL_normQ ⟨50, [(33, _), (34, _), (35, _), (36, _), (37, _), (38, _), (39, _), (40, _), (41, _), (42, _), (43, _), (44, _), (45, _), (46, _), (47, _)], _⟩ (_ :: _ :: _ :: _ :: _ :: _ :: ψ) rfl rfl ?_
            refine JL_move rfl ?_
            exact JL_nil (JE_stepV rfl ss0))), OblS_V (fun vals ex ψ => (by
            refine JL_normQ ⟨50, [(33, _), (34, _), (35, _), (36, _), (37, _), (38, _), (39, _), (40, _), (41, _), (42, _), (43, _), (44, _), (45, _), (46, _), (47, _)], _⟩ (_ :: _ :: _ :: _ :: _ :: _ :: ψ) rfl rfl ?_
            refine JL_sub_to rfl rfl (IntWalk.i64_in _ (by omega)) ?_
            rw [show ((k : Int) - 1 : Int) = ((k - 1 : Nat) : Int) from by omega]
            exact JL_nil (JE_stepV rfl ss0))), OblS_V (fun vals ex ψ => (by
            refine JL_normQ ⟨50, [(33, _), (34, _), (35, _), (36, _), (37, _), (38, _), (39, _), (40, _), (41, _), (42, _), (43, _), (44, _), (45, _), (46, _), (47, _)], _⟩ (_ :: _ :: _ :: _ :: _ :: _ :: ψ) rfl rfl ?_
            refine JL_move rfl ?_
            exact JL_nil (JE_stepV rfl ss0))), OblS_V (fun vals ex ψ => (by
            refine JL_normQ ⟨50, [(33, _), (34, _), (35, _), (36, _), (37, _), (38, _), (39, _), (40, _), (41, _), (42, _), (43, _), (44, _), (45, _), (46, _), (47, _)], _⟩ (_ :: _ :: _ :: _ :: _ :: _ :: ψ) rfl rfl ?_
            refine JL_move rfl ?_
            exact JL_nil (JE_stepV rfl ss0))), OblS_V (fun vals ex ψ => (by
            refine JL_normQ ⟨50, [(33, _), (34, _), (35, _), (36, _), (37, _), (38, _), (39, _), (40, _), (41, _), (42, _), (43, _), (44, _), (45, _), (46, _), (47, _)], _⟩ (_ :: _ :: _ :: _ :: _ :: _ :: ψ) rfl rfl ?_
            refine JL_sub_to rfl rfl (IntWalk.i64_in _ (by omega)) ?_
            rw [show ((k : Int) - 1 : Int) = ((k - 1 : Nat) : Int) from by omega]
            exact JL_nil (JE_stepV rfl ss0))), OblS_V (fun vals ex ψ => (by
            refine JL_normQ ⟨50, [(33, _), (34, _), (35, _), (36, _), (37, _), (38, _), (39, _), (40, _), (41, _), (42, _), (43, _), (44, _), (45, _), (46, _), (47, _)], _⟩ (_ :: _ :: _ :: _ :: _ :: _ :: ψ) rfl rfl ?_
            refine JL_indexAddr (k - 1) sl28 rfl rfl rfl (by omega) (Reads.own 0 rfl) (by rw [rcells_length]; omega) ?_
            exact JL_nil (JE_stepV rfl ss0))), OblS_V (fun vals ex ψ => (by
            refine JL_normQ ⟨50, [(33, _), (34, _), (35, _), (36, _), (37, _), (38, _), (39, _), (40, _), (41, _), (42, _), (43, _), (44, _), (45, _), (46, _), (47, _)], _⟩ (_ :: _ :: _ :: _ :: _ :: _ :: ψ) rfl rfl ?_
            refine JL_loadEA (vs := [_, _, _]) ty36 (Nat.zero_lt_succ _) rfl (Reads.own 0 rfl) (rcells_getA (by omega)) ?_
            exact JL_nil (JE_stepV rfl ss0))), OblS_V (fun vals ex ψ => (by
            refine JL_normQ ⟨50, [(33, _), (34, _), (35, _), (36, _), (37, _), (38, _), (39, _), (40, _), (41, _), (42, _), (43, _), (44, _), (45, _), (46, _), (47, _)], _⟩ (_ :: _ :: _ :: _ :: _ :: _ :: ψ) rfl rfl ?_
            refine JL_move rfl ?_
            exact JL_nil (JE_stepV rfl ss0))), OblS_V (fun vals ex ψ => (by
            refine JL_normQ ⟨50, [(33, _), (34, _), (35, _), (36, _), (37, _), (38, _), (39, _), (40, _), (41, _), (42, _), (43, _), (44, _), (45, _), (46, _), (47, _)], _⟩ (_ :: _ :: _ :: _ :: _ :: _ :: ψ) rfl rfl ?_
            refine JL_move rfl ?_
            exact JL_nil (JE_stepV rfl ss0))), OblS_V (fun vals ex ψ => (by
            refine JL_normQ ⟨50, [(33, _), (34, _), (35, _), (36, _), (37, _), (38, _), (39, _), (40, _), (41, _), (42, _), (43, _), (44, _), (45, _), (46, _), (47, _)], _⟩ (_ :: _ :: _ :: _ :: _ :: _ :: ψ) rfl rfl ?_
            refine JL_indexAddr k sl28 rfl rfl rfl (by omega) (Reads.own 0 rfl) (by rw [rcells_length]; omega) ?_
            exact JL_nil (JE_stepV rfl ss0))), OblS_V (fun vals ex ψ => (by
            refine JL_normQ ⟨50, [(33, _), (34, _), (35, _), (36, _), (37, _), (38, _), (39, _), (40, _), (41, _), (42, _), (43, _), (44, _), (45, _), (46, _), (47, _)], _⟩ (_ :: _ :: _ :: _ :: _ :: _ :: ψ) rfl rfl ?_
            refine JL_loadEA (vs := [_, _, _]) ty36 (Nat.zero_lt_succ _) rfl (Reads.own 0 rfl) (rcells_getA (by omega)) ?_
            exact JL_nil (JE_stepV rfl ss0))), OblS_V (fun vals ex ψ => (by
            refine JL_normQ ⟨50, [(33, _), (34, _), (35, _), (36, _), (37, _), (38, _), (39, _), (40, _), (41, _), (42, _), (43, _), (44, _), (45, _), (46, _), (47, _)], _⟩ (_ :: _ :: _ :: _ :: _ :: _ :: ψ) rfl rfl ?_
            refine JL_indexAddr k sl28 rfl rfl rfl (by omega) (Reads.own 0 rfl) (by rw [rcells_length]; omega) ?_
            exact JL_nil (JE_stepV rfl ss0))), trivial⟩ (by kernel_rfl) rfl rfl ⟨fun vals bs r => ?_, fun vals bs r => ?_, fun vals bs r => ?_, fun vals bs r => ?_, fun vals bs r => ?_, fun vals bs r => ?_, trivial⟩
        · refine JL_normL [_] ⟨50, [(33, _), (34, _), (35, _), (36, _), (37, _), (38, _), (39, _), (40, _), (41, _), (42, _), (43, _), (44, _), (45, _), (46, _), (47, _)], _⟩ [osl _ _ _ _ _ _] [_, _, _, _, _, _, _, _, _] rfl rfl rfl rfl ?_
          generalize vals (0 + 1 + 1) = x35
          generalize vals (0 + 1 + 1 + 1) = x36
          generalize vals (0 + 1 + 1 + 1 + 1) = x37
          refine JL_storeE (vs := [_, _, _]) 0 ty36 (Nat.zero_lt_succ _) rfl rfl rfl (AllOne.cons rfl (AllOne.cons rfl (AllOne.cons rfl AllOne.nil))) rfl (by rw [rcells_length]; simp only [List.length_cons, List.length_nil]; omega) ?_
          rw [show setAll (rcells m1) (k * 3) (rc (m1.getD (k - 1) dI)) = rcells (m1.set k (m1.getD (k - 1) dI)) from rcells_set _ _ _ (by omega)]
          refine JL_nil_up 50 [osl _ _ _ _ _ _] [_, _, _, _, _, _, _, _, _] rfl rfl (by simp only [nrmF]; rfl) rfl rfl ?_
          refine JE_nextA ?_
          refine JA_step [2, 3] (by kernel_rfl) (by simp) ⟨⟨_, rfl, ?_⟩, ⟨_, rfl, ?_⟩, trivial⟩
          · refine JL_move rfl ?_
            refine JL_nil_up 50 [osl _ _ _ _ _ _] [_, _, _, _, _, _, _, _, _] rfl rfl (by simp only [nrmF]; rfl) rfl rfl ?_
            refine JE_nextA ?_
            refine JA_step [3] (by kernel_rfl) (by simp) ⟨⟨_, rfl, ?_⟩, trivial⟩
            refine JL_move rfl ?_
            refine JL_nil_up 50 [osl _ _ _ _ _ _] [_, _, _, _, _, _, _, _, _] rfl rfl (by simp only [nrmF]; rfl) rfl rfl ?_
            refine JE_nextA ?_
            refine JA_step [4] (by kernel_rfl) (by simp) ⟨⟨_, rfl, ?_⟩, trivial⟩
            refine JL_sub_to rfl rfl (IntWalk.i64_in _ (by omega)) ?_
            rw [show ((k : Int) - 1 : Int) = ((k - 1 : Nat) : Int) from by omega]
            refine JL_nil_up 50 [osl _ _ _ _ _ _] [_, _, _, _, _, _, _, _, _] rfl rfl (by simp only [nrmF]; rfl) rfl rfl ?_
            refine JE_nextA ?_
            refine JA_step [16] (by kernel_rfl) (by simp) ⟨⟨_, rfl, ?_⟩, trivial⟩
            refine JL_indexAddr (k - 1) sl28 rfl rfl rfl (by omega) (Reads.own 0 rfl) (by first | (rw [rcells_length, List.length_set]; omega) | (rw [rcells_length]; omega)) ?_
            refine JL_nil_up 50 [osl _ _ _ _ _ _] [_, _, _, _, _, _, _, _, _] rfl rfl (by simp only [nrmF]; rfl) rfl rfl ?_
            refine JE_nextA ?_
            refine JA_step [17] (by kernel_rfl) (by simp) ⟨⟨_, rfl, ?_⟩, trivial⟩
            refine JL_storeE (vs := [_, _, _]) 0 ty36 (Nat.zero_lt_succ _) rfl rfl rfl (AllOne.cons rfl (AllOne.cons rfl (AllOne.cons rfl AllOne.nil))) rfl (by rw [rcells_length, List.length_set]; simp only [List.length_cons, List.length_nil]; omega) ?_
            rw [show setAll (rcells (m1.set k (m1.getD (k - 1) dI))) ((k - 1) * 3) (rc (m1.getD k dI)) = rcells (swp m1 k) from rcells_set _ _ _ (by rw [List.length_set]; omega)]
            refine JL_nil_up 50 [osl _ _ _ _ _ _] [_, _, _, _, _, _, _, _, _] rfl rfl (by simp only [nrmF]; rfl) rfl rfl ?_
            refine JE_nextA ?_
            refine JA_end (by kernel_rfl) ?_
            refine JE_block_normal ?_
            refine JE_then ?_
            refine JC_region ?_
            refine JL_move rfl ?_
            refine JL_sub_to rfl rfl (IntWalk.i64_in _ (by omega)) ?_
            rw [show ((k : Int) - 1 : Int) = ((k - 1 : Nat) : Int) from by omega]
            refine JL_assign rfl ?_
            refine JL_nil_up 50 [osl _ _ _ _ _ _] [_, _, _, _, _, _, _, _, _] rfl rfl (by simp only [nrmF]; rfl) rfl rfl ?_
            refine JE_nextS (k - 1, swp m1 k) (by kernel_rfl) ?_ ?_ (by kernel_rfl) ?_
            · exact ⟨by omega, by rw [swp_len]; exact hm1, swp_mem hme1 h0 (by omega), hsx.step h0 hk (by omega) (cmpQ_pos.1 h29)⟩
            · first | omega | (dsimp only; omega)
            · exact subset_app subset_nil (ssS (ssS (ssS (ssS (ssS (ssS (ssS ss0)))))))
          · refine JL_move rfl ?_
            refine JL_nil_up 50 [osl _ _ _ _ _ _] [_, _, _, _, _, _, _, _, _] rfl rfl (by simp only [nrmF]; rfl) rfl rfl ?_
            refine JE_nextA ?_
            refine JA_step [2, 4] (by kernel_rfl) (by simp) ⟨⟨_, rfl, ?_⟩, ⟨_, rfl, ?_⟩, trivial⟩
            · refine JL_move rfl ?_
              refine JL_nil_up 50 [osl _ _ _ _ _ _] [_, _, _, _, _, _, _, _, _] rfl rfl (by simp only [nrmF]; rfl) rfl rfl ?_
              refine JE_nextA ?_
              refine JA_step [4] (by kernel_rfl) (by simp) ⟨⟨_, rfl, ?_⟩, trivial⟩
              refine JL_sub_to rfl rfl (IntWalk.i64_in _ (by omega)) ?_
              rw [show ((k : Int) - 1 : Int) = ((k - 1 : Nat) : Int) from by omega]
              refine JL_nil_up 50 [osl _ _ _ _ _ _] [_, _, _, _, _, _, _, _, _] rfl rfl (by simp only [nrmF]; rfl) rfl rfl ?_
              refine JE_nextA ?_
              refine JA_step [16] (by kernel_rfl) (by simp) ⟨⟨_, rfl, ?_⟩, trivial⟩
              refine JL_indexAddr (k - 1) sl28 rfl rfl rfl (by omega) (Reads.own 0 rfl) (by first | (rw [rcells_length, List.length_set]; omega) | (rw [rcells_length]; omega)) ?_
              refine JL_nil_up 50 [osl _ _ _ _ _ _] [_, _, _, _, _, _, _, _, _] rfl rfl (by simp only [nrmF]; rfl) rfl rfl ?_
              refine JE_nextA ?_
              refine JA_step [17] (by kernel_rfl) (by simp) ⟨⟨_, rfl, ?_⟩, trivial⟩
              refine JL_storeE (vs := [_, _, _]) 0 ty36 (Nat.zero_lt_succ _) rfl rfl rfl (AllOne.cons rfl (AllOne.cons rfl (AllOne.cons rfl AllOne.nil))) rfl (by rw [rcells_length, List.length_set]; simp only [List.length_cons, List.length_nil]; omega) ?_
              rw [show setAll (rcells (m1.set k (m1.getD (k - 1) dI))) ((k - 1) * 3) (rc (m1.getD k dI)) = rcells (swp m1 k) from rcells_set _ _ _ (by rw [List.length_set]; omega)]
              refine JL_nil_up 50 [osl _ _ _ _ _ _] [_, _, _, _, _, _, _, _, _] rfl rfl (by simp only [nrmF]; rfl) rfl rfl ?_
              refine JE_nextA ?_
              refine JA_end (by kernel_rfl) ?_
              refine JE_block_normal ?_
              refine JE_then ?_
              refine JC_region ?_
              refine JL_move rfl ?_
              refine JL_sub_to rfl rfl (IntWalk.i64_in _ (by omega)) ?_
              rw [show ((k : Int) - 1 : Int) = ((k - 1 : Nat) : Int) from by omega]
              refine JL_assign rfl ?_
              refine JL_nil_up 50 [osl _ _ _ _ _ _] [_, _, _, _, _, _, _, _, _] rfl rfl (by simp only [nrmF]; rfl) rfl rfl ?_
              refine JE_nextS (k - 1, swp m1 k) (by kernel_rfl) ?_ ?_ (by kernel_rfl) ?_
              · exact ⟨by omega, by rw [swp_len]; exact hm1, swp_mem hme1 h0 (by omega), hsx.step h0 hk (by omega) (cmpQ_pos.1 h29)⟩
              · first | omega | (dsimp only; omega)
              · exact subset_app subset_nil (ssS (ssS (ssS (ssS (ssS (ssS (ssS ss0)))))))
            · refine JL_sub_to rfl rfl (IntWalk.i64_in _ (by omega)) ?_
              rw [show ((k : Int) - 1 : Int) = ((k - 1 : Nat) : Int) from by omega]
              refine JL_nil_up 50 [osl _ _ _ _ _ _] [_, _, _, _, _, _, _, _, _] rfl rfl (by simp only [nrmF]; rfl) rfl rfl ?_
              refine JE_nextA ?_
              refine JA_step [2] (by kernel_rfl) (by simp) ⟨⟨_, rfl, ?_⟩, trivial⟩
              refine JL_move rfl ?_
              refine JL_nil_up 50 [osl _ _ _ _ _ _] [_, _, _, _, _, _, _, _, _] rfl rfl (by simp only [nrmF]; rfl) rfl rfl ?_
              refine JE_nextA ?_
              refine JA_step [16] (by kernel_rfl) (by simp) ⟨⟨_, rfl, ?_⟩, trivial⟩
              refine JL_indexAddr (k - 1) sl28 rfl rfl rfl (by omega) (Reads.own 0 rfl) (by first | (rw [rcells_length, List.length_set]; omega) | (rw [rcells_length]; omega)) ?_
              refine JL_nil_up 50 [osl _ _ _ _ _ _] [_, _, _, _, _, _, _, _, _] rfl rfl (by simp only [nrmF]; rfl) rfl rfl ?_
              refine JE_nextA ?_
              refine JA_step [17] (by kernel_rfl) (by simp) ⟨⟨_, rfl, ?_⟩, trivial⟩
              refine JL_storeE (vs := [_, _, _]) 0 ty36 (Nat.zero_lt_succ _) rfl rfl rfl (AllOne.cons rfl (AllOne.cons rfl (AllOne.cons rfl AllOne.nil))) rfl (by rw [rcells_length, List.length_set]; simp only [List.length_cons, List.length_nil]; omega) ?_
              rw [show setAll (rcells (m1.set k (m1.getD (k - 1) dI))) ((k - 1) * 3) (rc (m1.getD k dI)) = rcells (swp m1 k) from rcells_set _ _ _ (by rw [List.length_set]; omega)]
              refine JL_nil_up 50 [osl _ _ _ _ _ _] [_, _, _, _, _, _, _, _, _] rfl rfl (by simp only [nrmF]; rfl) rfl rfl ?_
              refine JE_nextA ?_
              refine JA_end (by kernel_rfl) ?_
              refine JE_block_normal ?_
              refine JE_then ?_
              refine JC_region ?_
              refine JL_move rfl ?_
              refine JL_sub_to rfl rfl (IntWalk.i64_in _ (by omega)) ?_
              rw [show ((k : Int) - 1 : Int) = ((k - 1 : Nat) : Int) from by omega]
              refine JL_assign rfl ?_
              refine JL_nil_up 50 [osl _ _ _ _ _ _] [_, _, _, _, _, _, _, _, _] rfl rfl (by simp only [nrmF]; rfl) rfl rfl ?_
              refine JE_nextS (k - 1, swp m1 k) (by kernel_rfl) ?_ ?_ (by kernel_rfl) ?_
              · exact ⟨by omega, by rw [swp_len]; exact hm1, swp_mem hme1 h0 (by omega), hsx.step h0 hk (by omega) (cmpQ_pos.1 h29)⟩
              · first | omega | (dsimp only; omega)
              · exact subset_app subset_nil (ssS (ssS (ssS (ssS (ssS (ssS (ssS ss0)))))))
        · refine JL_normL [_] ⟨50, [(33, _), (34, _), (35, _), (36, _), (37, _), (38, _), (39, _), (40, _), (41, _), (42, _), (43, _), (44, _), (45, _), (46, _), (47, _)], _⟩ [osl _ _ _ _ _ _] [_, _, _, _, _, _, _, _] rfl rfl rfl rfl ?_
          generalize vals (0 + 1 + 1) = x35
          generalize vals (0 + 1 + 1 + 1 + 1) = x37
          refine JL_storeE (vs := [_, _, _]) 0 ty36 (Nat.zero_lt_succ _) rfl rfl rfl (AllOne.cons rfl (AllOne.cons rfl (AllOne.cons rfl AllOne.nil))) rfl (by rw [rcells_length]; simp only [List.length_cons, List.length_nil]; omega) ?_
          rw [show setAll (rcells m1) (k * 3) (rc (m1.getD (k - 1) dI)) = rcells (m1.set k (m1.getD (k - 1) dI)) from rcells_set _ _ _ (by omega)]
          refine JL_nil_up 50 [osl _ _ _ _ _ _] [_, _, _, _, _, _, _, _] rfl rfl (by simp only [nrmF]; rfl) rfl rfl ?_
          refine JE_nextA ?_
          refine JA_step [2, 4] (by kernel_rfl) (by simp) ⟨⟨_, rfl, ?_⟩, ⟨_, rfl, ?_⟩, trivial⟩
          · refine JL_move rfl ?_
            refine JL_nil_up 50 [osl _ _ _ _ _ _] [_, _, _, _, _, _, _, _] rfl rfl (by simp only [nrmF]; rfl) rfl rfl ?_
            refine JE_nextA ?_
            refine JA_step [4] (by kernel_rfl) (by simp) ⟨⟨_, rfl, ?_⟩, trivial⟩
            refine JL_sub_to rfl rfl (IntWalk.i64_in _ (by omega)) ?_
            rw [show ((k : Int) - 1 : Int) = ((k - 1 : Nat) : Int) from by omega]
            refine JL_nil_up 50 [osl _ _ _ _ _ _] [_, _, _, _, _, _, _, _] rfl rfl (by simp only [nrmF]; rfl) rfl rfl ?_
            refine JE_nextA ?_
            refine JA_step [16] (by kernel_rfl) (by simp) ⟨⟨_, rfl, ?_⟩, trivial⟩
            refine JL_indexAddr (k - 1) sl28 rfl rfl rfl (by omega) (Reads.own 0 rfl) (by first | (rw [rcells_length, List.length_set]; omega) | (rw [rcells_length]; omega)) ?_
            refine JL_nil_up 50 [osl _ _ _ _ _ _] [_, _, _, _, _, _, _, _] rfl rfl (by simp only [nrmF]; rfl) rfl rfl ?_
            refine JE_nextA ?_
            refine JA_step [17] (by kernel_rfl) (by simp) ⟨⟨_, rfl, ?_⟩, trivial⟩
            refine JL_storeE (vs := [_, _, _]) 0 ty36 (Nat.zero_lt_succ _) rfl rfl rfl (AllOne.cons rfl (AllOne.cons rfl (AllOne.cons rfl AllOne.nil))) rfl (by rw [rcells_length, List.length_set]; simp only [List.length_cons, List.length_nil]; omega) ?_
            rw [show setAll (rcells (m1.set k (m1.getD (k - 1) dI))) ((k - 1) * 3) (rc (m1.getD k dI)) = rcells (swp m1 k) from rcells_set _ _ _ (by rw [List.length_set]; omega)]
            refine JL_nil_up 50 [osl _ _ _ _ _ _] [_, _, _, _, _, _, _, _] rfl rfl (by simp only [nrmF]; rfl) rfl rfl ?_
            refine JE_nextA ?_
            refine JA_end (by kernel_rfl) ?_
            refine JE_block_normal ?_
            refine JE_then ?_
            refine JC_region ?_
            refine JL_move rfl ?_
            refine JL_sub_to rfl rfl (IntWalk.i64_in _ (by omega)) ?_
            rw [show ((k : Int) - 1 : Int) = ((k - 1 : Nat) : Int) from by omega]
            refine JL_assign rfl ?_
            refine JL_nil_up 50 [osl _ _ _ _ _ _] [_, _, _, _, _, _, _, _] rfl rfl (by simp only [nrmF]; rfl) rfl rfl ?_
            refine JE_nextS (k - 1, swp m1 k) (by kernel_rfl) ?_ ?_ (by kernel_rfl) ?_
            · exact ⟨by omega, by rw [swp_len]; exact hm1, swp_mem hme1 h0 (by omega), hsx.step h0 hk (by omega) (cmpQ_pos.1 h29)⟩
            · first | omega | (dsimp only; omega)
            · exact subset_app subset_nil (ssS (ssS (ssS (ssS (ssS (ssS ss0))))))
          · refine JL_sub_to rfl rfl (IntWalk.i64_in _ (by omega)) ?_
            rw [show ((k : Int) - 1 : Int) = ((k - 1 : Nat) : Int) from by omega]
            refine JL_nil_up 50 [osl _ _ _ _ _ _] [_, _, _, _, _, _, _, _] rfl rfl (by simp only [nrmF]; rfl) rfl rfl ?_
            refine JE_nextA ?_
            refine JA_step [2] (by kernel_rfl) (by simp) ⟨⟨_, rfl, ?_⟩, trivial⟩
            refine JL_move rfl ?_
            refine JL_nil_up 50 [osl _ _ _ _ _ _] [_, _, _, _, _, _, _, _] rfl rfl (by simp only [nrmF]; rfl) rfl rfl ?_
            refine JE_nextA ?_
            refine JA_step [16] (by kernel_rfl) (by simp) ⟨⟨_, rfl, ?_⟩, trivial⟩
            refine JL_indexAddr (k - 1) sl28 rfl rfl rfl (by omega) (Reads.own 0 rfl) (by first | (rw [rcells_length, List.length_set]; omega) | (rw [rcells_length]; omega)) ?_
            refine JL_nil_up 50 [osl _ _ _ _ _ _] [_, _, _, _, _, _, _, _] rfl rfl (by simp only [nrmF]; rfl) rfl rfl ?_
            refine JE_nextA ?_
            refine JA_step [17] (by kernel_rfl) (by simp) ⟨⟨_, rfl, ?_⟩, trivial⟩
            refine JL_storeE (vs := [_, _, _]) 0 ty36 (Nat.zero_lt_succ _) rfl rfl rfl (AllOne.cons rfl (AllOne.cons rfl (AllOne.cons rfl AllOne.nil))) rfl (by rw [rcells_length, List.length_set]; simp only [List.length_cons, List.length_nil]; omega) ?_
            rw [show setAll (rcells (m1.set k (m1.getD (k - 1) dI))) ((k - 1) * 3) (rc (m1.getD k dI)) = rcells (swp m1 k) from rcells_set _ _ _ (by rw [List.length_set]; omega)]
            refine JL_nil_up 50 [osl _ _ _ _ _ _] [_, _, _, _, _, _, _, _] rfl rfl (by simp only [nrmF]; rfl) rfl rfl ?_
            refine JE_nextA ?_
            refine JA_end (by kernel_rfl) ?_
            refine JE_block_normal ?_
            refine JE_then ?_
            refine JC_region ?_
            refine JL_move rfl ?_
            refine JL_sub_to rfl rfl (IntWalk.i64_in _ (by omega)) ?_
            rw [show ((k : Int) - 1 : Int) = ((k - 1 : Nat) : Int) from by omega]
            refine JL_assign rfl ?_
            refine JL_nil_up 50 [osl _ _ _ _ _ _] [_, _, _, _, _, _, _, _] rfl rfl (by simp only [nrmF]; rfl) rfl rfl ?_
            refine JE_nextS (k - 1, swp m1 k) (by kernel_rfl) ?_ ?_ (by kernel_rfl) ?_
            · exact ⟨by omega, by rw [swp_len]; exact hm1, swp_mem hme1 h0 (by omega), hsx.step h0 hk (by omega) (cmpQ_pos.1 h29)⟩
            · first | omega | (dsimp only; omega)
            · exact subset_app subset_nil (ssS (ssS (ssS (ssS (ssS (ssS ss0))))))
        · refine JL_normL [_] ⟨50, [(33, _), (34, _), (35, _), (36, _), (37, _), (38, _), (39, _), (40, _), (41, _), (42, _), (43, _), (44, _), (45, _), (46, _), (47, _)], _⟩ [osl _ _ _ _ _ _] [_, _, _, _, _, _, _] rfl rfl rfl rfl ?_
          generalize vals (0 + 1 + 1) = x35
          refine JL_storeE (vs := [_, _, _]) 0 ty36 (Nat.zero_lt_succ _) rfl rfl rfl (AllOne.cons rfl (AllOne.cons rfl (AllOne.cons rfl AllOne.nil))) rfl (by rw [rcells_length]; simp only [List.length_cons, List.length_nil]; omega) ?_
          rw [show setAll (rcells m1) (k * 3) (rc (m1.getD (k - 1) dI)) = rcells (m1.set k (m1.getD (k - 1) dI)) from rcells_set _ _ _ (by omega)]
          refine JL_nil_up 50 [osl _ _ _ _ _ _] [_, _, _, _, _, _, _] rfl rfl (by simp only [nrmF]; rfl) rfl rfl ?_
          refine JE_nextA ?_
          refine JA_step [2] (by kernel_rfl) (by simp) ⟨⟨_, rfl, ?_⟩, trivial⟩
          refine JL_move rfl ?_
          refine JL_nil_up 50 [osl _ _ _ _ _ _] [_, _, _, _, _, _, _] rfl rfl (by simp only [nrmF]; rfl) rfl rfl ?_
          refine JE_nextA ?_
          refine JA_step [16] (by kernel_rfl) (by simp) ⟨⟨_, rfl, ?_⟩, trivial⟩
          refine JL_indexAddr (k - 1) sl28 rfl rfl rfl (by omega) (Reads.own 0 rfl) (by first | (rw [rcells_length, List.length_set]; omega) | (rw [rcells_length]; omega)) ?_
          refine JL_nil_up 50 [osl _ _ _ _ _ _] [_, _, _, _, _, _, _] rfl rfl (by simp only [nrmF]; rfl) rfl rfl ?_
          refine JE_nextA ?_
          refine JA_step [17] (by kernel_rfl) (by simp) ⟨⟨_, rfl, ?_⟩, trivial⟩
          refine JL_storeE (vs := [_, _, _]) 0 ty36 (Nat.zero_lt_succ _) rfl rfl rfl (AllOne.cons rfl (AllOne.cons rfl (AllOne.cons rfl AllOne.nil))) rfl (by rw [rcells_length, List.length_set]; simp only [List.length_cons, List.length_nil]; omega) ?_
          rw [show setAll (rcells (m1.set k (m1.getD (k - 1) dI))) ((k - 1) * 3) (rc (m1.getD k dI)) = rcells (swp m1 k) from rcells_set _ _ _ (by rw [List.length_set]; omega)]
          refine JL_nil_up 50 [osl _ _ _ _ _ _] [_, _, _, _, _, _, _] rfl rfl (by simp only [nrmF]; rfl) rfl rfl ?_
          refine JE_nextA ?_
          refine JA_end (by kernel_rfl) ?_
          refine JE_block_normal ?_
          refine JE_then ?_
          refine JC_region ?_
          refine JL_move rfl ?_
          refine JL_sub_to rfl rfl (IntWalk.i64_in _ (by omega)) ?_
          rw [show ((k : Int) - 1 : Int) = ((k - 1 : Nat) : Int) from by omega]
          refine JL_assign rfl ?_
          refine JL_nil_up 50 [osl _ _ _ _ _ _] [_, _, _, _, _, _, _] rfl rfl (by simp only [nrmF]; rfl) rfl rfl ?_
          refine JE_nextS (k - 1, swp m1 k) (by kernel_rfl) ?_ ?_ (by kernel_rfl) ?_
          · exact ⟨by omega, by rw [swp_len]; exact hm1, swp_mem hme1 h0 (by omega), hsx.step h0 hk (by omega) (cmpQ_pos.1 h29)⟩
          · first | omega | (dsimp only; omega)
          · exact subset_app subset_nil (ssS (ssS (ssS (ssS (ssS ss0)))))
        · refine JL_normL [_] ⟨50, [(33, _), (34, _), (35, _), (36, _), (37, _), (38, _), (39, _), (40, _), (41, _), (42, _), (43, _), (44, _), (45, _), (46, _), (47, _)], _⟩ [osl _ _ _ _ _ _] [_, _, _, _, _, _, _, _] rfl rfl rfl rfl ?_
          generalize vals (0 + 1 + 1 + 1) = x36
          generalize vals (0 + 1 + 1 + 1 + 1) = x37
          refine JL_storeE (vs := [_, _, _]) 0 ty36 (Nat.zero_lt_succ _) rfl rfl rfl (AllOne.cons rfl (AllOne.cons rfl (AllOne.cons rfl AllOne.nil))) rfl (by rw [rcells_length]; simp only [List.length_cons, List.length_nil]; omega) ?_
          rw [show setAll (rcells m1) (k * 3) (rc (m1.getD (k - 1) dI)) = rcells (m1.set k (m1.getD (k - 1) dI)) from rcells_set _ _ _ (by omega)]
          refine JL_nil_up 50 [osl _ _ _ _ _ _] [_, _, _, _, _, _, _, _] rfl rfl (by simp only [nrmF]; rfl) rfl rfl ?_
          refine JE_nextA ?_
          refine JA_step [3] (by kernel_rfl) (by simp) ⟨⟨_, rfl, ?_⟩, trivial⟩
          refine JL_move rfl ?_
          refine JL_nil_up 50 [osl _ _ _ _ _ _] [_, _, _, _, _, _, _, _] rfl rfl (by simp only [nrmF]; rfl) rfl rfl ?_
          refine JE_nextA ?_
          refine JA_step [4] (by kernel_rfl) (by simp) ⟨⟨_, rfl, ?_⟩, trivial⟩
          refine JL_sub_to rfl rfl (IntWalk.i64_in _ (by omega)) ?_
          rw [show ((k : Int) - 1 : Int) = ((k - 1 : Nat) : Int) from by omega]
          refine JL_nil_up 50 [osl _ _ _ _ _ _] [_, _, _, _, _, _, _, _] rfl rfl (by simp only [nrmF]; rfl) rfl rfl ?_
          refine JE_nextA ?_
          refine JA_step [16] (by kernel_rfl) (by simp) ⟨⟨_, rfl, ?_⟩, trivial⟩
          refine JL_indexAddr (k - 1) sl28 rfl rfl rfl (by omega) (Reads.own 0 rfl) (by first | (rw [rcells_length, List.length_set]; omega) | (rw [rcells_length]; omega)) ?_
          refine JL_nil_up 50 [osl _ _ _ _ _ _] [_, _, _, _, _, _, _, _] rfl rfl (by simp only [nrmF]; rfl) rfl rfl ?_
          refine JE_nextA ?_
          refine JA_step [17] (by kernel_rfl) (by simp) ⟨⟨_, rfl, ?_⟩, trivial⟩
          refine JL_storeE (vs := [_, _, _]) 0 ty36 (Nat.zero_lt_succ _) rfl rfl rfl (AllOne.cons rfl (AllOne.cons rfl (AllOne.cons rfl AllOne.nil))) rfl (by rw [rcells_length, List.length_set]; simp only [List.length_cons, List.length_nil]; omega) ?_
          rw [show setAll (rcells (m1.set k (m1.getD (k - 1) dI))) ((k - 1) * 3) (rc (m1.getD k dI)) = rcells (swp m1 k) from rcells_set _ _ _ (by rw [List.length_set]; omega)]
          refine JL_nil_up 50 [osl _ _ _ _ _ _] [_, _, _, _, _, _, _, _] rfl rfl (by simp only [nrmF]; rfl) rfl rfl ?_
          refine JE_nextA ?_
          refine JA_end (by kernel_rfl) ?_
          refine JE_block_normal ?_
          refine JE_then ?_
          refine JC_region ?_
          refine JL_move rfl ?_
          refine JL_sub_to rfl rfl (IntWalk.i64_in _ (by omega)) ?_
          rw [show ((k : Int) - 1 : Int) = ((k - 1 : Nat) : Int) from by omega]
          refine JL_assign rfl ?_
          refine JL_nil_up 50 [osl _ _ _ _ _ _] [_, _, _, _, _, _, _, _] rfl rfl (by simp only [nrmF]; rfl) rfl rfl ?_
          refine JE_nextS (k - 1, swp m1 k) (by kernel_rfl) ?_ ?_ (by kernel_rfl) ?_
          · exact ⟨by omega, by rw [swp_len]; exact hm1, swp_mem hme1 h0 (by omega), hsx.step h0 hk (by omega) (cmpQ_pos.1 h29)⟩
          · first | omega | (dsimp only; omega)
          · exact subset_app subset_nil (ssS (ssS (ssS (ssS (ssS (ssS ss0))))))
        · refine JL_normL [_] ⟨50, [(33, _), (34, _), (35, _), (36, _), (37, _), (38, _), (39, _), (40, _), (41, _), (42, _), (43, _), (44, _), (45, _), (46, _), (47, _)], _⟩ [osl _ _ _ _ _ _] [_, _, _, _, _, _, _] rfl rfl rfl rfl ?_
          generalize vals (0 + 1 + 1 + 1 + 1) = x37
          refine JL_storeE (vs := [_, _, _]) 0 ty36 (Nat.zero_lt_succ _) rfl rfl rfl (AllOne.cons rfl (AllOne.cons rfl (AllOne.cons rfl AllOne.nil))) rfl (by rw [rcells_length]; simp only [List.length_cons, List.length_nil]; omega) ?_
          rw [show setAll (rcells m1) (k * 3) (rc (m1.getD (k - 1) dI)) = rcells (m1.set k (m1.getD (k - 1) dI)) from rcells_set _ _ _ (by omega)]
          refine JL_nil_up 50 [osl _ _ _ _ _ _] [_, _, _, _, _, _, _] rfl rfl (by simp only [nrmF]; rfl) rfl rfl ?_
          refine JE_nextA ?_
          refine JA_step [4] (by kernel_rfl) (by simp) ⟨⟨_, rfl, ?_⟩, trivial⟩
          refine JL_sub_to rfl rfl (IntWalk.i64_in _ (by omega)) ?_
          rw [show ((k : Int) - 1 : Int) = ((k - 1 : Nat) : Int) from by omega]
          refine JL_nil_up 50 [osl _ _ _ _ _ _] [_, _, _, _, _, _, _] rfl rfl (by simp only [nrmF]; rfl) rfl rfl ?_
          refine JE_nextA ?_
          refine JA_step [16] (by kernel_rfl) (by simp) ⟨⟨_, rfl, ?_⟩, trivial⟩
          refine JL_indexAddr (k - 1) sl28 rfl rfl rfl (by omega) (Reads.own 0 rfl) (by first | (rw [rcells_length, List.length_set]; omega) | (rw [rcells_length]; omega)) ?_
          refine JL_nil_up 50 [osl _ _ _ _ _ _] [_, _, _, _, _, _, _] rfl rfl (by simp only [nrmF]; rfl) rfl rfl ?_
          refine JE_nextA ?_
          refine JA_step [17] (by kernel_rfl) (by simp) ⟨⟨_, rfl, ?_⟩, trivial⟩
          refine JL_storeE (vs := [_, _, _]) 0 ty36 (Nat.zero_lt_succ _) rfl rfl rfl (AllOne.cons rfl (AllOne.cons rfl (AllOne.cons rfl AllOne.nil))) rfl (by rw [rcells_length, List.length_set]; simp only [List.length_cons, List.length_nil]; omega) ?_
          rw [show setAll (rcells (m1.set k (m1.getD (k - 1) dI))) ((k - 1) * 3) (rc (m1.getD k dI)) = rcells (swp m1 k) from rcells_set _ _ _ (by rw [List.length_set]; omega)]
          refine JL_nil_up 50 [osl _ _ _ _ _ _] [_, _, _, _, _, _, _] rfl rfl (by simp only [nrmF]; rfl) rfl rfl ?_
          refine JE_nextA ?_
          refine JA_end (by kernel_rfl) ?_
          refine JE_block_normal ?_
          refine JE_then ?_
          refine JC_region ?_
          refine JL_move rfl ?_
          refine JL_sub_to rfl rfl (IntWalk.i64_in _ (by omega)) ?_
          rw [show ((k : Int) - 1 : Int) = ((k - 1 : Nat) : Int) from by omega]
          refine JL_assign rfl ?_
          refine JL_nil_up 50 [osl _ _ _ _ _ _] [_, _, _, _, _, _, _] rfl rfl (by simp only [nrmF]; rfl) rfl rfl ?_
          refine JE_nextS (k - 1, swp m1 k) (by kernel_rfl) ?_ ?_ (by kernel_rfl) ?_
          · exact ⟨by omega, by rw [swp_len]; exact hm1, swp_mem hme1 h0 (by omega), hsx.step h0 hk (by omega) (cmpQ_pos.1 h29)⟩
          · first | omega | (dsimp only; omega)
          · exact subset_app subset_nil (ssS (ssS (ssS (ssS (ssS ss0)))))
        · refine JL_normL [_] ⟨50, [(33, _), (34, _), (35, _), (36, _), (37, _), (38, _), (39, _), (40, _), (41, _), (42, _), (43, _), (44, _), (45, _), (46, _), (47, _)], _⟩ [osl _ _ _ _ _ _] [_, _, _, _, _, _] rfl rfl rfl rfl ?_
          refine JL_storeE (vs := [_, _, _]) 0 ty36 (Nat.zero_lt_succ _) rfl rfl rfl (AllOne.cons rfl (AllOne.cons rfl (AllOne.cons rfl AllOne.nil))) rfl (by rw [rcells_length]; simp only [List.length_cons, List.length_nil]; omega) ?_
          rw [show setAll (rcells m1) (k * 3) (rc (m1.getD (k - 1) dI)) = rcells (m1.set k (m1.getD (k - 1) dI)) from rcells_set _ _ _ (by omega)]
          refine JL_nil_up 50 [osl _ _ _ _ _ _] [_, _, _, _, _, _] rfl rfl (by simp only [nrmF]; rfl) rfl rfl ?_
          refine JE_nextA ?_
          refine JA_step [16] (by kernel_rfl) (by simp) ⟨⟨_, rfl, ?_⟩, trivial⟩
          refine JL_indexAddr (k - 1) sl28 rfl rfl rfl (by omega) (Reads.own 0 rfl) (by first | (rw [rcells_length, List.length_set]; omega) | (rw [rcells_length]; omega)) ?_
          refine JL_nil_up 50 [osl _ _ _ _ _ _] [_, _, _, _, _, _] rfl rfl (by simp only [nrmF]; rfl) rfl rfl ?_
          refine JE_nextA ?_
          refine JA_step [17] (by kernel_rfl) (by simp) ⟨⟨_, rfl, ?_⟩, trivial⟩
          refine JL_storeE (vs := [_, _, _]) 0 ty36 (Nat.zero_lt_succ _) rfl rfl rfl (AllOne.cons rfl (AllOne.cons rfl (AllOne.cons rfl AllOne.nil))) rfl (by rw [rcells_length, List.length_set]; simp only [List.length_cons, List.length_nil]; omega) ?_
          rw [show setAll (rcells (m1.set k (m1.getD (k - 1) dI))) ((k - 1) * 3) (rc (m1.getD k dI)) = rcells (swp m1 k) from rcells_set _ _ _ (by rw [List.length_set]; omega)]
          refine JL_nil_up 50 [osl _ _ _ _ _ _] [_, _, _, _, _, _] rfl rfl (by simp only [nrmF]; rfl) rfl rfl ?_
          refine JE_nextA ?_
          refine JA_end (by kernel_rfl) ?_
          refine JE_block_normal ?_
          refine JE_then ?_
          refine JC_region ?_
          refine JL_move rfl ?_
          refine JL_sub_to rfl rfl (IntWalk.i64_in _ (by omega)) ?_
          rw [show ((k : Int) - 1 : Int) = ((k - 1 : Nat) : Int) from by omega]
          refine JL_assign rfl ?_
          refine JL_nil_up 50 [osl _ _ _ _ _ _] [_, _, _, _, _, _] rfl rfl (by simp only [nrmF]; rfl) rfl rfl ?_
          refine JE_nextS (k - 1, swp m1 k) (by kernel_rfl) ?_ ?_ (by kernel_rfl) ?_
          · exact ⟨by omega, by rw [swp_len]; exact hm1, swp_mem hme1 h0 (by omega), hsx.step h0 hk (by omega) (cmpQ_pos.1 h29)⟩
          · first | omega | (dsimp only; omega)
          · exact subset_app subset_nil (ssS (ssS (ssS (ssS ss0))))
      · refine JL_pick_t rfl rfl ?_
        refine JL_done_up 50 [osl _ _ _ _ _ _] [_, _, _, _, _, _] rfl rfl (by simp only [nrmF]; rfl) rfl rfl ?_
        refine JC_false rfl ?_
        refine JC_exit ?_
        refine JE_then_exit ?_
        refine JE_nextS_exit ?_
        refine JE_block_exit ?_
        refine JE_block_normal ?_
        refine JE_then ?_
        refine JC_region ?_
        refine JL_move rfl ?_
        refine JL_add_to rfl rfl (IntWalk.i64_in _ (by omega)) ?_
        refine JL_assign rfl ?_
        refine JL_nil_up 50 [osl _ _ _ _ _ _] [_, _, _, _, _, _] rfl rfl (by simp only [nrmF]; rfl) rfl rfl ?_
        refine JE_nextS (i + 1, m1) (by kernel_rfl) ?_ ?_ (by kernel_rfl) ?_
        · exact ⟨by omega, hm1, hme1, hsx.done (by first | exact .inl h0 | exact .inr (cmpQ_le.1 (by omega)))⟩
        · first | omega | (dsimp only; omega)
        · exact subset_app subset_nil (ssS (ssS (ssS (ssS ss0))))
  · refine JL_done_up 50 [osl _ _ _ _ _ _] [_, _] rfl rfl (by simp only [nrmF]; rfl) rfl rfl ?_
    refine JC_false rfl ?_
    refine JC_exit ?_
    refine JE_then_exit ?_
    refine JE_nextS_exit ?_
    refine JE_block_exit ?_
    refine JE_then ?_
    refine JC_seq ?_
    refine JC_region ?_
    refine JL_move rfl ?_
    refine JL_assign rfl ?_
    refine JL_done_up 50 [osl _ _ _ _ _ _] [_, _] rfl rfl (by simp only [nrmF]; rfl) rfl rfl ?_
    refine JC_ret ?_
    have hie : i = m.length := by omega
    subst hie
    rw [← hm]
    refine JE_fisSub (f := true) (l := l) (by repeat (first | with_reducible exact mm0 | refine mmS ?_)) hmem ?_
    refine JE_give 0 rfl ?_
    refine JE_norm _ [] [_, _, _, _] rfl rfl rfl ?_
    refine JE_ret (vs := [_]) [vCells ad8 (rcells m), vFis m] Tryd.results26 ⟨rfl, rfl⟩ ?_ ?_
    · exact ⟨ad8, cap8, m, rfl, by first | exact hm | rfl, hmem, hso.falls, rfl⟩
    · exact (all_cons (by repeat (first | with_reducible exact mm0 | refine mmS ?_)) (all_cons (by repeat (first | with_reducible exact mm0 | refine mmS ?_)) all_nil))

end Go.Fw.K
