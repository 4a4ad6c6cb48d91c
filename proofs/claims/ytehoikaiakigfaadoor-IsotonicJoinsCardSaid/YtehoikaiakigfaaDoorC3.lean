/- Walks through functions of the given program: each meets its contract. (Printed by a program of this repo.) -/
import Derived.Test.YtehoikaiakigfaaDoorC2
import Derived.Test.YtehoikaiakigfaaDoorProg
namespace Go.Fw.C3
open Go Go.RowKit Go.Proofs Go.Nat9 Go.Fw
attribute [local irreducible] JC JL JE
theorem mixed : Tryd.prog.follows .mixedOrders = true := by kernel_rfl
theorem sl22 : slOf Tryd.prog 22 = some (3, 1, 8, [.int .i64 0]) := by kernel_rfl
theorem sl28 : slOf Tryd.prog 28 = some (36, 3, 56, [.bool false, .slice none 0 0, .slice none 0 0]) := by kernel_rfl
theorem ty3 : tyOf Tryd.prog 3 = some (false, 1) := by kernel_rfl
end Go.Fw.C3
namespace Go.Fw.K
open Go Go.RowKit Go.Proofs Go.Nat9 Go.Fw Go.Fw.C3
attribute [local irreducible] JC JL JE

theorem ones_con {n : Int} (n0 : 0 ≤ n) (hn : n ≤ 1000) :
    ConF Tryd.prog 10 [.int .i64 n] []
      (fun v φo => ∃ (ad : Option Addr) (c : Nat), v = .slice ad (List.replicate n.toNat (1 : Int)).length c ∧ φo = [vCells ad (i64s (List.replicate n.toNat (1 : Int)))]) := by
  refine ConF_of Tryd.func10 rfl 14 _ rfl rfl ?_
  intro w0
  refine JC_norm ⟨14, [], [_, _, _, _, _, _, _, _, _, _, _, _, _, _]⟩ [] [] rfl rfl rfl ?_
  refine JC_seq ?_
  refine JC_region ?_
  refine JL_assign rfl ?_
  refine JL_done_up 14 [] [] rfl rfl (by simp only [nrmF]; rfl) rfl rfl ?_
  refine JC_seq ?_
  refine JC_region ?_
  refine JL_assign rfl ?_
  refine JL_done_up 14 [] [] rfl rfl (by simp only [nrmF]; rfl) rfl rfl ?_
  refine JC_seq ?_
  refine JC_seq ?_
  refine JC_region ?_
  refine JL_assign rfl ?_
  refine JL_done_up 14 [] [] rfl rfl (by simp only [nrmF]; rfl) rfl rfl ?_
  refine JC_block ?_
  refine JC_addNil 3 1 ?_
  refine JC_norm ⟨14, [], [_, _, _, _, _, _, _, _, _, _, _, _, _, _]⟩ [osl _ _ _ _ _ _] [] rfl rfl rfl ?_
  refine JC_loopS ((Nat) × (List Int) × (Option Addr) × (Nat)) (fun (i, L, ad, cap) => (i : Int) ≤ n ∧ L = List.replicate i (1 : Int)) (fun (i, L, ad, cap) => n.toNat - i) (fun u (i, L, ad, cap) => [none, none, none, some (.slice ad L.length cap), some (.int .i64 (i : Nat)), some (u 5), some (u 6), some (u 7), some (u 8), some (u 9), some (u 10), some (u 11), some (u 12), none]) (fun (i, L, ad, cap) => [some (osl ad L.length cap 3 1 (i64s L))]) (fun (i, L, ad, cap) => []) (0, [], none, 0) (by kernel_rfl) ?_ (by kernel_rfl) ?_ ?_
  · exact ⟨by omega, rfl⟩
  · exact subset_nil
  intro u i hC
  obtain ⟨i, L, ad, cap⟩ := i
  obtain ⟨hi, hL⟩ := hC
  refine JC_norm ⟨14, [], [_, _, _, _, _, _, _, _, _, _, _, _, _, _]⟩ [osl _ _ _ _ _ _] [] rfl rfl rfl ?_
  refine JC_seq ?_
  refine JC_seq ?_
  refine JC_region ?_
  refine JL_move rfl ?_
  refine JL_move rfl ?_
  refine JL_lss rfl rfl ?_
  refine JL_split (fun h7 => ?_) (fun h7 => ?_)
  · refine JL_done_up 14 [osl _ _ _ _ _ _] [] rfl rfl (by simp only [nrmF]; rfl) rfl rfl ?_
    refine JC_true rfl ?_
    refine JC_skip ?_
    refine JE_then ?_
    refine JC_seq ?_
    refine JC_block ?_
    have hLl : L.length = i := by rw [hL]; simp
    refine JC_region ?_
    refine JL_move rfl ?_
    refine JL_build1 sl22 rfl rfl (fun g11 => ?_)
    refine JL_appendI (L := _) 0 1 sl22 rfl rfl rfl rfl (by omega) (by omega) (fun ad12 cap12 hc12 => ?_)
    refine JL_dropAt 1 ?_
    refine JL_norm _ [osl _ _ _ _ _ _] [] rfl rfl rfl ?_
    rw [show L.length + 1 = (L ++ [(1 : Int)]).length from by simp]
    refine JL_assign rfl ?_
    refine JL_nil_up 14 [osl _ _ _ _ _ _] [] rfl rfl (by simp only [nrmF]; rfl) rfl rfl ?_
    refine JE_block_normal ?_
    refine JE_then ?_
    refine JC_region ?_
    refine JL_move rfl ?_
    refine JL_add_to rfl rfl (IntWalk.i64_in _ (by omega)) ?_
    refine JL_assign rfl ?_
    refine JL_nil_up 14 [osl _ _ _ _ _ _] [] rfl rfl (by simp only [nrmF]; rfl) rfl rfl ?_
    refine JE_nextS (i + 1, L ++ [(1 : Int)], ad12, cap12) (by kernel_rfl) ?_ ?_ (by kernel_rfl) ?_
    · exact ⟨by omega, by rw [hL, List.replicate_succ']⟩
    · first | omega | (dsimp only; omega)
    · exact subset_app subset_nil ss0
  · refine JL_done_up 14 [osl _ _ _ _ _ _] [] rfl rfl (by simp only [nrmF]; rfl) rfl rfl ?_
    refine JC_false rfl ?_
    refine JC_exit ?_
    refine JE_then_exit ?_
    refine JE_nextS_exit ?_
    refine JE_block_exit ?_
    refine JE_then ?_
    refine JC_seq ?_
    refine JC_region ?_
    refine JL_move rfl ?_
    refine JL_assign rfl ?_
    refine JL_done_up 14 [osl _ _ _ _ _ _] [] rfl rfl (by simp only [nrmF]; rfl) rfl rfl ?_
    refine JC_ret ?_
    have hin : i = n.toNat := by omega
    rw [hin] at hL
    subst hL
    refine JE_give 0 rfl ?_
    refine JE_norm _ [] [_] rfl rfl rfl ?_
    refine JE_ret (vs := [_]) [vCells ad (i64s (List.replicate n.toNat (1 : Int)))] Tryd.results10 ⟨rfl, rfl⟩ ?_ ?_
    · exact ⟨ad, cap, rfl, rfl⟩
    · exact (all_cons (by repeat (first | with_reducible exact mm0 | refine mmS ?_)) all_nil)

theorem few0_con {adv adw : Option Addr} {cv cw : Nat} {V W : List Int} :
    ConF Tryd.prog 5 [.slice adv V.length cv, .slice adw W.length cw, .slice none 0 0] [vCells adv (i64s V), vCells adw (i64s W)]
      (fun v φo => v = .bool (decide (V.length ≤ 30 ∧ W.length ≤ 30)) ∧ φo = []) := by
  refine ConF_of Tryd.func5 rfl 45 _ rfl rfl ?_
  intro w0
  refine JC_norm ⟨45, [], [_, _, _, _, _, _, _, _, _, _, _, _, _, _, _, _, _, _, _, _, _, _, _, _, _, _, _, _, _, _, _, _, _, _, _, _, _, _, _, _, _, _, _, _, _]⟩ [] [_, _] rfl rfl rfl ?_
  refine JC_seq ?_
  refine JC_region ?_
  refine JL_assign rfl ?_
  refine JL_done_up 45 [] [_, _] rfl rfl (by simp only [nrmF]; rfl) rfl rfl ?_
  refine JC_seq ?_
  refine JC_seq ?_
  refine JC_region ?_
  refine JL_assign rfl ?_
  refine JL_done_up 45 [] [_, _] rfl rfl (by simp only [nrmF]; rfl) rfl rfl ?_
  refine JC_block ?_
  refine JC_loopS ((Nat)) (fun (k : Nat) => k = 0) (fun (k : Nat) => 0) (fun u (k : Nat) => [none, none, none, none, none, none, some (u 6), some (.int .i64 (k : Nat)), some (u 8), some (u 9), some (u 10), some (u 11), some (u 12), some (u 13), some (u 14), some (u 15), some (u 16), some (u 17), some (u 18), some (u 19), some (u 20), some (u 21), some (u 22), some (u 23), some (u 24), some (u 25), some (u 26), some (u 27), some (u 28), some (u 29), some (u 30), some (u 31), none, none, none, none, none, none, none, none, none, none, none, none, none]) (fun (k : Nat) => []) (fun (k : Nat) => []) (0) (by kernel_rfl) ?_ (by kernel_rfl) ?_ ?_
  · exact rfl
  · exact subset_nil
  intro u k hk
  refine JC_norm ⟨45, [], [_, _, _, _, _, _, _, _, _, _, _, _, _, _, _, _, _, _, _, _, _, _, _, _, _, _, _, _, _, _, _, _, _, _, _, _, _, _, _, _, _, _, _, _, _]⟩ [] [_, _] rfl rfl rfl ?_
  refine JC_seq ?_
  refine JC_seq ?_
  refine JC_region ?_
  refine JL_move rfl ?_
  refine JL_move rfl ?_
  refine JL_len sl28 rfl ?_
  refine JL_lss rfl rfl ?_
  refine JL_split (fun h11 => ?_) (fun h11 => ?_)
  · exact absurd h11 (by omega)
  · refine JL_done_up 45 [] [_, _] rfl rfl (by simp only [nrmF]; rfl) rfl rfl ?_
    refine JC_false rfl ?_
    refine JC_exit ?_
    refine JE_then_exit ?_
    refine JE_nextS_exit ?_
    refine JE_block_exit ?_
    refine JE_then ?_
    refine JC_seq ?_
    refine JC_region ?_
    refine JL_move rfl ?_
    refine JL_len sl22 rfl ?_
    refine JL_leq rfl rfl ?_
    refine JL_split (fun h34 => ?_) (fun h34 => ?_)
    · refine JL_move rfl ?_
      refine JL_guard_yes rfl rfl ?_
      refine JL_move rfl ?_
      refine JL_guard_yes rfl rfl ?_
      refine JL_len sl22 rfl ?_
      refine JL_guard_yes rfl rfl ?_
      refine JL_leq rfl rfl ?_
      refine JL_split (fun h38 => ?_) (fun h38 => ?_)
      · refine JL_pick_t rfl rfl ?_
        refine JL_move rfl ?_
        refine JL_guard_yes rfl rfl ?_
        refine JL_move rfl ?_
        refine JL_guard_yes rfl rfl ?_
        refine JL_len sl28 rfl ?_
        refine JL_guard_yes rfl rfl ?_
        refine JL_leq rfl rfl ?_
        refine JL_split (fun h43 => ?_) (fun h43 => ?_)
        · refine JL_pick_t rfl rfl ?_
          refine JL_assign rfl ?_
          refine JL_done_up 45 [] [_, _] rfl rfl (by simp only [nrmF]; rfl) rfl rfl ?_
          refine JC_ret ?_
          refine JE_ret (vs := [_]) [] Tryd.results5 ⟨rfl, rfl⟩ ?_ ?_
          · rw [decide_eq_true (by omega)]; exact ⟨rfl, rfl⟩
          · exact all_nil
        · exact absurd h43 (by decide)
      · refine JL_pick_t rfl rfl ?_
        refine JL_move rfl ?_
        refine JL_guard_no rfl rfl ?_
        refine JL_guard_no rfl rfl ?_
        refine JL_guard_no rfl rfl ?_
        refine JL_pick_f rfl rfl ?_
        refine JL_assign rfl ?_
        refine JL_done_up 45 [] [_, _] rfl rfl (by simp only [nrmF]; rfl) rfl rfl ?_
        refine JC_ret ?_
        refine JE_ret (vs := [_]) [] Tryd.results5 ⟨rfl, rfl⟩ ?_ ?_
        · rw [decide_eq_false (by omega)]; exact ⟨rfl, rfl⟩
        · exact all_nil
    · refine JL_move rfl ?_
      refine JL_guard_no rfl rfl ?_
      refine JL_guard_no rfl rfl ?_
      refine JL_guard_no rfl rfl ?_
      refine JL_pick_f rfl rfl ?_
      refine JL_move rfl ?_
      refine JL_guard_no rfl rfl ?_
      refine JL_guard_no rfl rfl ?_
      refine JL_guard_no rfl rfl ?_
      refine JL_pick_f rfl rfl ?_
      refine JL_assign rfl ?_
      refine JL_done_up 45 [] [_, _] rfl rfl (by simp only [nrmF]; rfl) rfl rfl ?_
      refine JC_ret ?_
      refine JE_ret (vs := [_]) [] Tryd.results5 ⟨rfl, rfl⟩ ?_ ?_
      · rw [decide_eq_false (by omega)]; exact ⟨rfl, rfl⟩
      · exact all_nil

theorem bints_con {ad1 ad2 : Option Addr} {c1 c2 : Nat} {L : List Int} (hL : L.length ≤ 1000000) :
    ConF Tryd.prog 13 [.slice ad1 L.length c1, .slice ad2 L.length c2] [vCells ad1 (i64s L), vCells ad2 (i64s L)]
      (fun v φo => v = .bool true ∧ φo = []) := by
  refine ConF_of Tryd.func13 rfl 26 _ rfl rfl ?_
  intro w0
  refine JC_norm ⟨26, [], [_, _, _, _, _, _, _, _, _, _, _, _, _, _, _, _, _, _, _, _, _, _, _, _, _, _]⟩ [] [_, _] rfl rfl rfl ?_
  refine JC_seq ?_
  refine JC_region ?_
  refine JL_assign rfl ?_
  refine JL_done_up 26 [] [_, _] rfl rfl (by simp only [nrmF]; rfl) rfl rfl ?_
  refine JC_seq ?_
  refine JC_seq ?_
  refine JC_region ?_
  refine JL_move rfl ?_
  refine JL_len sl22 rfl ?_
  refine JL_move rfl ?_
  refine JL_len sl22 rfl ?_
  refine JL_neq rfl rfl ?_
  refine JL_split (fun h10 => ?_) (fun h10 => ?_)
  · exact absurd rfl h10
  · refine JL_done_up 26 [] [_, _] rfl rfl (by simp only [nrmF]; rfl) rfl rfl ?_
    refine JC_false rfl ?_
    refine JC_skip ?_
    refine JE_then ?_
    refine JC_seq ?_
    refine JC_seq ?_
    refine JC_region ?_
    refine JL_assign rfl ?_
    refine JL_done_up 26 [] [_, _] rfl rfl (by simp only [nrmF]; rfl) rfl rfl ?_
    refine JC_block ?_
    refine JC_loopS ((Nat)) (fun (k : Nat) => k ≤ L.length) (fun (k : Nat) => L.length - k) (fun u (k : Nat) => [none, none, none, none, some (u 4), some (.int .i64 (k : Nat)), none, none, none, none, none, some (u 11), some (u 12), some (u 13), some (u 14), some (u 15), some (u 16), some (u 17), some (u 18), some (u 19), some (u 20), some (u 21), some (u 22), some (u 23), some (u 24), some (u 25)]) (fun (k : Nat) => []) (fun (k : Nat) => []) (0) (by kernel_rfl) ?_ (by kernel_rfl) ?_ ?_
    · exact Nat.zero_le _
    · exact subset_nil
    intro u k hk
    refine JC_norm ⟨26, [], [_, _, _, _, _, _, _, _, _, _, _, _, _, _, _, _, _, _, _, _, _, _, _, _, _, _]⟩ [] [_, _] rfl rfl rfl ?_
    refine JC_seq ?_
    refine JC_seq ?_
    refine JC_region ?_
    refine JL_move rfl ?_
    refine JL_move rfl ?_
    refine JL_len sl22 rfl ?_
    refine JL_lss rfl rfl ?_
    refine JL_split (fun h14 => ?_) (fun h14 => ?_)
    · refine JL_done_up 26 [] [_, _] rfl rfl (by simp only [nrmF]; rfl) rfl rfl ?_
      refine JC_true rfl ?_
      refine JC_skip ?_
      refine JE_then ?_
      refine JC_seq ?_
      refine JC_block ?_
      refine JC_seq ?_
      refine JC_drawT mixed 8 [spV 17 [] _, spV 18 [] _, spV 19 [0, 1] _, spV 20 [2] _, spV 21 [] _, spV 22 [] _, spV 23 [4, 5] _, spV 24 [6] _] ⟨OblS_V (fun vals ex ψ => (by
          refine JL_normQ ⟨26, [(17, _), (18, _), (19, _), (20, _), (21, _), (22, _), (23, _), (24, _)], _⟩ (_ :: _ :: ψ) rfl rfl ?_
          refine JL_move rfl ?_
          exact JL_nil (JE_stepV rfl ss0))), OblS_V (fun vals ex ψ => (by
          refine JL_normQ ⟨26, [(17, _), (18, _), (19, _), (20, _), (21, _), (22, _), (23, _), (24, _)], _⟩ (_ :: _ :: ψ) rfl rfl ?_
          refine JL_move rfl ?_
          exact JL_nil (JE_stepV rfl ss0))), OblS_V (fun vals ex ψ => (by
          refine JL_normQ ⟨26, [(17, _), (18, _), (19, _), (20, _), (21, _), (22, _), (23, _), (24, _)], _⟩ (_ :: _ :: ψ) rfl rfl ?_
          refine JL_idx k sl22 rfl rfl rfl (by omega) (by first | exact Reads.view (by repeat (first | with_reducible exact mm0 | refine mmS ?_))) (by first | (rw [u32s_length]; omega) | (rw [i64s_length]; omega)) ?_
          exact JL_nil (JE_stepV rfl ss0))), OblS_V (fun vals ex ψ => (by
          refine JL_normQ ⟨26, [(17, _), (18, _), (19, _), (20, _), (21, _), (22, _), (23, _), (24, _)], _⟩ (_ :: _ :: ψ) rfl rfl ?_
          refine JL_loadE ty3 rfl (by first | exact Reads.view (by repeat (first | with_reducible exact mm0 | refine mmS ?_))) (i64s_get (by omega)) ?_
          exact JL_nil (JE_stepV rfl ss0))), OblS_V (fun vals ex ψ => (by
          refine JL_normQ ⟨26, [(17, _), (18, _), (19, _), (20, _), (21, _), (22, _), (23, _), (24, _)], _⟩ (_ :: _ :: ψ) rfl rfl ?_
          refine JL_move rfl ?_
          exact JL_nil (JE_stepV rfl ss0))), OblS_V (fun vals ex ψ => (by
          refine JL_normQ ⟨26, [(17, _), (18, _), (19, _), (20, _), (21, _), (22, _), (23, _), (24, _)], _⟩ (_ :: _ :: ψ) rfl rfl ?_
          refine JL_move rfl ?_
          exact JL_nil (JE_stepV rfl ss0))), OblS_V (fun vals ex ψ => (by
          refine JL_normQ ⟨26, [(17, _), (18, _), (19, _), (20, _), (21, _), (22, _), (23, _), (24, _)], _⟩ (_ :: _ :: ψ) rfl rfl ?_
          refine JL_idx k sl22 rfl rfl rfl (by omega) (by first | exact Reads.view (by repeat (first | with_reducible exact mm0 | refine mmS ?_))) (by first | (rw [u32s_length]; omega) | (rw [i64s_length]; omega)) ?_
          exact JL_nil (JE_stepV rfl ss0))), OblS_V (fun vals ex ψ => (by
          refine JL_normQ ⟨26, [(17, _), (18, _), (19, _), (20, _), (21, _), (22, _), (23, _), (24, _)], _⟩ (_ :: _ :: ψ) rfl rfl ?_
          refine JL_loadE ty3 rfl (by first | exact Reads.view (by repeat (first | with_reducible exact mm0 | refine mmS ?_))) (i64s_get (by omega)) ?_
          exact JL_nil (JE_stepV rfl ss0))), trivial⟩ (by kernel_rfl) (fun vals bs => ?_)
      refine JL_normL [_] ⟨26, [(17, _), (18, _), (19, _), (20, _), (21, _), (22, _), (23, _), (24, _)], _⟩ [] [_, _] rfl rfl rfl rfl ?_
      refine JL_neq rfl rfl ?_
      refine JL_split (fun h25 => ?_) (fun h25 => ?_)
      · exact absurd rfl h25
      · refine JL_done_up 26 [] [_, _] rfl rfl (by simp only [nrmF]; rfl) rfl rfl ?_
        refine JC_false rfl ?_
        refine JC_skip ?_
        refine JE_block_normal ?_
        refine JE_then ?_
        refine JC_region ?_
        refine JL_move rfl ?_
        refine JL_add_to rfl rfl (IntWalk.i64_in _ (by omega)) ?_
        refine JL_assign rfl ?_
        refine JL_nil_up 26 [] [_, _] rfl rfl (by simp only [nrmF]; rfl) rfl rfl ?_
        refine JE_nextS (k + 1) (by kernel_rfl) ?_ ?_ (by kernel_rfl) ?_
        · exact (by omega : k + 1 ≤ L.length)
        · first | omega | (dsimp only; omega)
        · exact subset_app subset_nil ss0
    · refine JL_done_up 26 [] [_, _] rfl rfl (by simp only [nrmF]; rfl) rfl rfl ?_
      refine JC_false rfl ?_
      refine JC_exit ?_
      refine JE_then_exit ?_
      refine JE_nextS_exit ?_
      refine JE_block_exit ?_
      refine JE_then ?_
      refine JC_seq ?_
      refine JC_region ?_
      refine JL_assign rfl ?_
      refine JL_done_up 26 [] [_, _] rfl rfl (by simp only [nrmF]; rfl) rfl rfl ?_
      refine JC_ret ?_
      refine JE_ret (vs := [_]) [] Tryd.results13 ⟨rfl, rfl⟩ ?_ ?_
      · exact ⟨rfl, rfl⟩
      · exact all_nil

end Go.Fw.K
