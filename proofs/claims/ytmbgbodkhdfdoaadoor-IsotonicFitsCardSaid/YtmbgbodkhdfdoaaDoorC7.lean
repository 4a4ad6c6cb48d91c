/- Walks through functions of the given program: each meets its contract. (Printed by a program of this repo.) -/
import Derived.Test.YtmbgbodkhdfdoaaDoorB1
import Derived.Test.YtmbgbodkhdfdoaaDoorIsoA
import Derived.Test.YtmbgbodkhdfdoaaDoorProg
namespace Go.Fw.C7
open Go Go.RowKit Go.Proofs Go.Nat9 Go.Fw
attribute [local irreducible] JC JL JE
theorem ca36 : callable Tryd.prog 36 = true := by kernel_rfl
theorem mixed : Tryd.prog.follows .mixedOrders = true := by kernel_rfl
theorem sl44 : slOf Tryd.prog 44 = some (26, 3, 56, [.bool false, .slice none 0 0, .slice none 0 0]) := by kernel_rfl
theorem ty26 : tyOf Tryd.prog 26 = some (true, 3) := by kernel_rfl
end Go.Fw.C7
namespace Go.Fw.K
open Go Go.RowKit Go.Proofs Go.Nat9 Go.Fw Go.Fw.C7
attribute [local irreducible] JC JL JE

theorem bfracs_con {ad1 ad2 : Option Addr} {c1 c2 : Nat} {l m : List Fe} (hq : l.map (·.q) = m.map (·.q)) (hl : l.length ≤ 1000000) (hb : ∀ j, qs (l.getD j dF).q 1000000000) :
    ConF Tryd.prog 32 [.slice ad1 l.length c1, .slice ad2 m.length c2] [vCells ad1 (fcells l), vFes l, vCells ad2 (fcells m), vFes m]
      (fun v φo => v = .bool true ∧ φo = []) := by
  have hlm : l.length = m.length := by have := congrArg List.length hq; simpa using this
  refine ConF_of Tryd.func32 rfl 27 _ rfl rfl ?_
  intro w0
  refine JC_norm ⟨27, [], [_, _, _, _, _, _, _, _, _, _, _, _, _, _, _, _, _, _, _, _, _, _, _, _, _, _, _]⟩ [] [_, _, _, _] rfl rfl rfl ?_
  refine JC_seq ?_
  refine JC_region ?_
  refine JL_assign rfl ?_
  refine JL_done_up 27 [] [_, _, _, _] rfl rfl (by simp only [nrmF]; rfl) rfl rfl ?_
  refine JC_seq ?_
  refine JC_seq ?_
  refine JC_region ?_
  refine JL_move rfl ?_
  refine JL_len sl44 rfl ?_
  refine JL_move rfl ?_
  refine JL_len sl44 rfl ?_
  refine JL_neq rfl rfl ?_
  refine JL_split (fun h10 => ?_) (fun h10 => ?_)
  · exact absurd hlm (by omega)
  · refine JL_done_up 27 [] [_, _, _, _] rfl rfl (by simp only [nrmF]; rfl) rfl rfl ?_
    refine JC_false rfl ?_
    refine JC_skip ?_
    refine JE_then ?_
    refine JC_seq ?_
    refine JC_seq ?_
    refine JC_region ?_
    refine JL_assign rfl ?_
    refine JL_done_up 27 [] [_, _, _, _] rfl rfl (by simp only [nrmF]; rfl) rfl rfl ?_
    refine JC_block ?_
    refine JC_loopS ((Nat)) (fun (k : Nat) => k ≤ l.length) (fun (k : Nat) => l.length - k) (fun u (k : Nat) => [none, none, none, none, some (u 4), some (.int .i64 (k : Nat)), none, none, none, none, none, some (u 11), some (u 12), some (u 13), some (u 14), some (u 15), some (u 16), some (u 17), some (u 18), some (u 19), some (u 20), some (u 21), some (u 22), some (u 23), some (u 24), some (u 25), some (u 26)]) (fun (k : Nat) => []) (fun (k : Nat) => []) (0) (by kernel_rfl) ?_ (by kernel_rfl) ?_ ?_
    · exact Nat.zero_le _
    · exact subset_nil
    intro u k hk
    refine JC_norm ⟨27, [], [_, _, _, _, _, _, _, _, _, _, _, _, _, _, _, _, _, _, _, _, _, _, _, _, _, _, _]⟩ [] [_, _, _, _] rfl rfl rfl ?_
    refine JC_seq ?_
    refine JC_seq ?_
    refine JC_region ?_
    refine JL_move rfl ?_
    refine JL_move rfl ?_
    refine JL_len sl44 rfl ?_
    refine JL_lss rfl rfl ?_
    refine JL_split (fun h14 => ?_) (fun h14 => ?_)
    · refine JL_done_up 27 [] [_, _, _, _] rfl rfl (by simp only [nrmF]; rfl) rfl rfl ?_
      refine JC_true rfl ?_
      refine JC_skip ?_
      refine JE_then ?_
      refine JC_seq ?_
      refine JC_block ?_
      refine JC_seq ?_
      refine JC_drawT mixed 8 [spV 17 [] _, spV 18 [] _, spV 19 [0, 1] _, spV 20 [2] _, spV 21 [] _, spV 22 [] _, spV 23 [4, 5] _, spV 24 [6] _] ⟨OblS_V (fun vals ex ψ => (by
          refine JL_normQ ⟨27, [(17, _), (18, _), (19, _), (20, _), (21, _), (22, _), (23, _), (24, _)], _⟩ (_ :: _ :: _ :: _ :: ψ) rfl rfl ?_
          refine JL_move rfl ?_
          exact JL_nil (JE_stepV rfl ss0))), OblS_V (fun vals ex ψ => (by
          refine JL_normQ ⟨27, [(17, _), (18, _), (19, _), (20, _), (21, _), (22, _), (23, _), (24, _)], _⟩ (_ :: _ :: _ :: _ :: ψ) rfl rfl ?_
          refine JL_move rfl ?_
          exact JL_nil (JE_stepV rfl ss0))), OblS_V (fun vals ex ψ => (by
          refine JL_normQ ⟨27, [(17, _), (18, _), (19, _), (20, _), (21, _), (22, _), (23, _), (24, _)], _⟩ (_ :: _ :: _ :: _ :: ψ) rfl rfl ?_
          refine JL_indexAddr k sl44 rfl rfl rfl (by omega) (by first | exact Reads.view (by repeat (first | with_reducible exact mm0 | refine mmS ?_))) (by rw [fcells_length]; omega) ?_
          exact JL_nil (JE_stepV rfl ss0))), OblS_V (fun vals ex ψ => (by
          refine JL_normQ ⟨27, [(17, _), (18, _), (19, _), (20, _), (21, _), (22, _), (23, _), (24, _)], _⟩ (_ :: _ :: _ :: _ :: ψ) rfl rfl ?_
          refine JL_loadEA (vs := [_, _, _]) ty26 (Nat.zero_lt_succ _) rfl (by first | exact Reads.view (by repeat (first | with_reducible exact mm0 | refine mmS ?_))) (fcells_getA (by omega)) ?_
          exact JL_nil (JE_stepV rfl ss0))), OblS_V (fun vals ex ψ => (by
          refine JL_normQ ⟨27, [(17, _), (18, _), (19, _), (20, _), (21, _), (22, _), (23, _), (24, _)], _⟩ (_ :: _ :: _ :: _ :: ψ) rfl rfl ?_
          refine JL_move rfl ?_
          exact JL_nil (JE_stepV rfl ss0))), OblS_V (fun vals ex ψ => (by
          refine JL_normQ ⟨27, [(17, _), (18, _), (19, _), (20, _), (21, _), (22, _), (23, _), (24, _)], _⟩ (_ :: _ :: _ :: _ :: ψ) rfl rfl ?_
          refine JL_move rfl ?_
          exact JL_nil (JE_stepV rfl ss0))), OblS_V (fun vals ex ψ => (by
          refine JL_normQ ⟨27, [(17, _), (18, _), (19, _), (20, _), (21, _), (22, _), (23, _), (24, _)], _⟩ (_ :: _ :: _ :: _ :: ψ) rfl rfl ?_
          refine JL_indexAddr k sl44 rfl rfl rfl (by omega) (by first | exact Reads.view (by repeat (first | with_reducible exact mm0 | refine mmS ?_))) (by rw [fcells_length]; omega) ?_
          exact JL_nil (JE_stepV rfl ss0))), OblS_V (fun vals ex ψ => (by
          refine JL_normQ ⟨27, [(17, _), (18, _), (19, _), (20, _), (21, _), (22, _), (23, _), (24, _)], _⟩ (_ :: _ :: _ :: _ :: ψ) rfl rfl ?_
          refine JL_loadEA (vs := [_, _, _]) ty26 (Nat.zero_lt_succ _) rfl (by first | exact Reads.view (by repeat (first | with_reducible exact mm0 | refine mmS ?_))) (fcells_getA (by omega)) ?_
          exact JL_nil (JE_stepV rfl ss0))), trivial⟩ (by kernel_rfl) (fun vals bs => ?_)
      refine JL_normL [_, _] ⟨27, [(17, _), (18, _), (19, _), (20, _), (21, _), (22, _), (23, _), (24, _)], _⟩ [] [_, _, _, _] rfl rfl rfl rfl ?_
      refine JL_fesGet (f := false) (l := l) (l.getD k dF) (by repeat (first | with_reducible exact mm0 | refine mmS ?_)) (getD_mem (by omega)) ?_
      refine JL_fesGet (f := false) (l := m) (m.getD k dF) (by repeat (first | with_reducible exact mm0 | refine mmS ?_)) (getD_mem (by omega)) ?_
      have hqe : (l.getD k dF).q = (m.getD k dF).q := by rw [← map_getD, ← map_getD, hq]
      have hbk := hb k
      generalize l.getD k dF = x at hqe hbk ⊢
      generalize m.getD k dF = y at hqe ⊢
      obtain ⟨ya, yc, yb, ye, yq⟩ := y
      obtain rfl : x.q = yq := hqe
      refine JL_callF' (Asks.cons (holds_of_mem (by repeat (first | with_reducible exact mm0 | refine mmS ?_))) (Asks.cons (holds_of_mem (by repeat (first | with_reducible exact mm0 | refine mmS ?_))) (Asks.cons (holds_of_mem (by repeat (first | with_reducible exact mm0 | refine mmS ?_))) (Asks.cons (holds_of_mem (by repeat (first | with_reducible exact mm0 | refine mmS ?_))) Asks.nil)))) (bfrac_con (o := some x.q) hbk) rfl ca36 ⟨rfl, rfl, rfl⟩ ?_
      rintro _ _ ⟨rfl, rfl⟩
      refine JL_not rfl ?_
      rw [Bool.not_true]
      refine JL_done_up 27 [] [_, _, _, _, _, _, _, _] rfl rfl (by simp only [nrmF]; rfl) rfl rfl ?_
      refine JC_false rfl ?_
      refine JC_skip ?_
      refine JE_block_normal ?_
      refine JE_then ?_
      refine JC_region ?_
      refine JL_move rfl ?_
      refine JL_add_to rfl rfl (IntWalk.i64_in _ (by omega)) ?_
      refine JL_assign rfl ?_
      refine JL_nil_up 27 [] [_, _, _, _, _, _, _, _] rfl rfl (by simp only [nrmF]; rfl) rfl rfl ?_
      refine JE_nextS (k + 1) (by kernel_rfl) ?_ ?_ (by kernel_rfl) ?_
      · exact (by omega : k + 1 ≤ l.length)
      · first | omega | (dsimp only; omega)
      · exact subset_app subset_nil (ssS (ssS (ssS (ssS ss0))))
    · refine JL_done_up 27 [] [_, _, _, _] rfl rfl (by simp only [nrmF]; rfl) rfl rfl ?_
      refine JC_false rfl ?_
      refine JC_exit ?_
      refine JE_then_exit ?_
      refine JE_nextS_exit ?_
      refine JE_block_exit ?_
      refine JE_then ?_
      refine JC_seq ?_
      refine JC_region ?_
      refine JL_assign rfl ?_
      refine JL_done_up 27 [] [_, _, _, _] rfl rfl (by simp only [nrmF]; rfl) rfl rfl ?_
      refine JC_ret ?_
      refine JE_ret (vs := [_]) [] Tryd.results32 ⟨rfl, rfl⟩ ?_ ?_
      · exact ⟨rfl, rfl⟩
      · exact all_nil

end Go.Fw.K
