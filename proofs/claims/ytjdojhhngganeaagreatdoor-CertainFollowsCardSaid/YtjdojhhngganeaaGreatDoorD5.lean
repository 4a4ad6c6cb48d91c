/- Walks through functions of the given program: each meets its contract. (Printed by a program of this repo.) -/
import Derived.Test.YtjdojhhngganeaaGreatDoorD4
import Derived.Test.YtjdojhhngganeaaGreatDoorDgH
import Derived.Test.YtjdojhhngganeaaGreatDoorDgO
import Derived.Test.YtjdojhhngganeaaGreatDoorFwW
import Derived.Test.YtjdojhhngganeaaGreatDoorCcA
import Derived.Test.YtjdojhhngganeaaGreatDoorF
import Derived.Test.YtjdojhhngganeaaGreatDoorProg
namespace Go.Fw.D5
open Go Go.RowKit Go.Proofs Go.Nat9 Go.Fw
attribute [local irreducible] JC JL JE
theorem ca28 : callable Tryz.prog 28 = true := by kernel_rfl
theorem ca40 : callable Tryz.prog 40 = true := by kernel_rfl
theorem ca41 : callable Tryz.prog 41 = true := by kernel_rfl
theorem ca42 : callable Tryz.prog 42 = true := by kernel_rfl
theorem ca46 : callable Tryz.prog 46 = true := by kernel_rfl
theorem mixed : Tryz.prog.follows .mixedOrders = true := by kernel_rfl
theorem sl22 : slOf Tryz.prog 22 = some (53, 2, 16, [.int .i64 0, .int .i64 0]) := by kernel_rfl
theorem st36 : stOf Tryz.prog 36 = some ([(0, 1), (1, 1), (2, 1)], [.bool false, .slice none 0 0, .slice none 0 0]) := by kernel_rfl
theorem st53 : stOf Tryz.prog 53 = some ([(0, 1), (1, 1)], [.int .i64 0, .int .i64 0]) := by kernel_rfl
theorem ty36 : tyOf Tryz.prog 36 = some (true, 3) := by kernel_rfl
theorem ty53 : tyOf Tryz.prog 53 = some (true, 2) := by kernel_rfl
theorem z36 : zeroOf Tryz.prog 36 = some [.bool false, .slice none 0 0, .slice none 0 0] := by kernel_rfl
end Go.Fw.D5
namespace Go.Fw.K
open Go Go.RowKit Go.Proofs Go.Nat9 Go.Fw Go.Fw.D5
attribute [local irreducible] JC JL JE

set_option maxHeartbeats 1000000 in
theorem cpa_con {ad : Option Addr} {c : Nat} {l : List Pr} (hln : l.length ≤ 1000000) :
    ConO Tryz.prog 46 [.slice ad l.length c] [osl ad l.length c 53 2 (pcells l)] []
      (fun v rout φo => v = .slice ad (cpG dP l l.length).length c ∧ φo = [] ∧ rout = [osl ad (cpG dP l l.length).length c 53 2 (pcells (cpG dP l l.length))]) := by
  refine ConO_of Tryz.func46 rfl 61 _ rfl rfl ?_
  intro w0 p0 p1
  refine JC_norm ⟨61, [], [_, _, _, _, _, _, _, _, _, _, _, _, _, _, _, _, _, _, _, _, _, _, _, _, _, _, _, _, _, _, _, _, _, _, _, _, _, _, _, _, _, _, _, _, _, _, _, _, _, _, _, _, _, _, _, _, _, _, _, _, _]⟩ [osl _ _ _ _ _ _] [_, _] rfl rfl rfl ?_
  refine JC_seq ?_
  refine JC_region ?_
  refine JL_assign rfl ?_
  refine JL_done_up 61 [osl _ _ _ _ _ _] [_, _] rfl rfl (by simp only [nrmF]; rfl) rfl rfl ?_
  refine JC_seq ?_
  refine JC_seq ?_
  refine JC_ownCap 0 rfl (fun hcap => ?_)
  refine JC_region ?_
  refine JL_move rfl ?_
  refine JL_len sl22 rfl ?_
  refine JL_lss rfl rfl ?_
  refine JL_split (fun h8 => ?_) (fun h8 => ?_)
  · refine JL_done_up 61 [osl _ _ _ _ _ _] [_, _] rfl rfl (by simp only [nrmF]; rfl) rfl rfl ?_
    refine JC_true rfl ?_
    refine JC_seq ?_
    refine JC_region ?_
    refine JL_move rfl ?_
    refine JL_assign rfl ?_
    refine JL_done_up 61 [osl _ _ _ _ _ _] [_, _] rfl rfl (by simp only [nrmF]; rfl) rfl rfl ?_
    refine JC_ret ?_
    refine JE_then_ret ?_
    refine JE_retO (vs := [_]) [] Tryz.results46 ⟨rfl, rfl⟩ ?_ ?_ (by repeat (first | with_reducible exact mm0 | refine mmS ?_)) (by repeat (first | with_reducible exact mm0 | refine mmS ?_))
    · rw [show cpG dP l l.length = l from cpG_all (fun j h0 hj => by omega)]; exact ⟨rfl, rfl, rfl⟩
    · exact all_nil
  · refine JL_done_up 61 [osl _ _ _ _ _ _] [_, _] rfl rfl (by simp only [nrmF]; rfl) rfl rfl ?_
    refine JC_false rfl ?_
    refine JC_skip ?_
    refine JE_then ?_
    refine JC_seq ?_
    refine JC_seq ?_
    refine JC_region ?_
    refine JL_assign rfl ?_
    refine JL_done_up 61 [osl _ _ _ _ _ _] [_, _] rfl rfl (by simp only [nrmF]; rfl) rfl rfl ?_
    refine JC_block ?_
    refine JC_loopS ((Nat)) (fun (k : Nat) => 1 ≤ k ∧ k ≤ l.length ∧ ∀ j, 0 < j → j < k → l.getD j dP ≠ l.getD (j - 1) dP) (fun (k : Nat) => l.length - k) (fun u (k : Nat) => [none, none, some (u 2), some (.int .i64 (k : Nat)), some (u 4), some (u 5), none, none, none, none, some (u 10), some (u 11), some (u 12), some (u 13), some (u 14), some (u 15), some (u 16), some (u 17), some (u 18), some (u 19), some (u 20), some (u 21), some (u 22), some (u 23), some (u 24), some (u 25), some (u 26), some (u 27), some (u 28), some (u 29), some (u 30), some (u 31), some (u 32), some (u 33), some (u 34), some (u 35), some (u 36), some (u 37), some (u 38), some (u 39), some (u 40), some (u 41), some (u 42), some (u 43), some (u 44), some (u 45), some (u 46), some (u 47), some (u 48), some (u 49), some (u 50), some (u 51), some (u 52), some (u 53), some (u 54), some (u 55), some (u 56), some (u 57), some (u 58), some (u 59), none]) (fun (k : Nat) => [none]) (fun (k : Nat) => []) (1) (by kernel_rfl) ?_ (by kernel_rfl) ?_ ?_
    · exact ⟨Nat.le_refl _, by omega, fun j h0 hj => by omega⟩
    · exact subset_nil
    intro u k hC
    obtain ⟨hk1, hk, hne⟩ := hC
    refine JC_norm ⟨61, [], [_, _, _, _, _, _, _, _, _, _, _, _, _, _, _, _, _, _, _, _, _, _, _, _, _, _, _, _, _, _, _, _, _, _, _, _, _, _, _, _, _, _, _, _, _, _, _, _, _, _, _, _, _, _, _, _, _, _, _, _, _]⟩ [osl _ _ _ _ _ _] [_, _] rfl rfl rfl ?_
    refine JC_seq ?_
    refine JC_seq ?_
    refine JC_region ?_
    refine JL_move rfl ?_
    refine JL_move rfl ?_
    refine JL_len sl22 rfl ?_
    refine JL_lss rfl rfl ?_
    refine JL_split (fun h13 => ?_) (fun h13 => ?_)
    · refine JL_done_up 61 [osl _ _ _ _ _ _] [_, _] rfl rfl (by simp only [nrmF]; rfl) rfl rfl ?_
      refine JC_true rfl ?_
      refine JC_skip ?_
      refine JE_then ?_
      refine JC_seq ?_
      refine JC_block ?_
      refine JC_seq ?_
      refine JC_drawT mixed 9 [spV 16 [] _, spV 17 [] _, spV 18 [0, 1] _, spV 19 [2] _, spV 20 [] _, spV 21 [] _, spV 22 [5] _, spV 23 [4, 6] _, spV 24 [7] _] ⟨OblS_V (fun vals ex ψ => (by
          refine JL_move rfl ?_
          exact JL_nil (JE_stepV rfl ss0))), OblS_V (fun vals ex ψ => (by
          refine JL_move rfl ?_
          exact JL_nil (JE_stepV rfl ss0))), OblS_V (fun vals ex ψ => (by
          refine JL_normQ _ (_ :: _ :: ψ) rfl rfl ?_
          refine JL_indexAddr k sl22 rfl rfl rfl (by omega) (Reads.own 0 rfl) (by rw [pcells_length]; omega) ?_
          exact JL_nil (JE_stepV rfl ss0))), OblS_V (fun vals ex ψ => (by
          refine JL_normQ _ (_ :: _ :: ψ) rfl rfl ?_
          refine JL_loadEA (vs := [_, _]) ty53 (Nat.zero_lt_succ _) rfl (Reads.own 0 rfl) (pcells_getA (l := l) (j := k) (by omega)) ?_
          exact JL_nil (JE_stepV rfl ss0))), OblS_V (fun vals ex ψ => (by
          refine JL_move rfl ?_
          exact JL_nil (JE_stepV rfl ss0))), OblS_V (fun vals ex ψ => (by
          refine JL_move rfl ?_
          exact JL_nil (JE_stepV rfl ss0))), OblS_V (fun vals ex ψ => (by
          refine JL_sub_to rfl rfl (IntWalk.i64_in _ (by omega)) ?_
          rw [show ((k : Int) - 1 : Int) = ((k - 1 : Nat) : Int) from by omega]
          exact JL_nil (JE_stepV rfl ss0))), OblS_V (fun vals ex ψ => (by
          refine JL_normQ _ (_ :: _ :: ψ) rfl rfl ?_
          refine JL_indexAddr (k - 1) sl22 rfl rfl rfl (by omega) (Reads.own 0 rfl) (by rw [pcells_length]; omega) ?_
          exact JL_nil (JE_stepV rfl ss0))), OblS_V (fun vals ex ψ => (by
          refine JL_normQ _ (_ :: _ :: ψ) rfl rfl ?_
          refine JL_loadEA (vs := [_, _]) ty53 (Nat.zero_lt_succ _) rfl (Reads.own 0 rfl) (pcells_getA (l := l) (j := (k - 1)) (by omega)) ?_
          exact JL_nil (JE_stepV rfl ss0))), trivial⟩ (by kernel_rfl) (fun vals bs => ?_)
      refine JL_normL [_] ⟨61, [(16, _), (17, _), (18, _), (19, _), (20, _), (21, _), (22, _), (23, _), (24, _)], _⟩ [osl _ _ _ _ _ _] [_, _] rfl rfl rfl rfl ?_
      refine JL_eqlP eqArc rfl rfl ?_
      refine JL_split (fun h25 => ?_) (fun h25 => ?_)
      · refine JL_done_up 61 [osl _ _ _ _ _ _] [_, _] rfl rfl (by simp only [nrmF]; rfl) rfl rfl ?_
        refine JC_true rfl ?_
        refine JC_seq ?_
        refine JC_region ?_
        refine JL_move rfl ?_
        refine JL_move rfl ?_
        refine JL_slice k l.length c sl22 rfl (.some rfl rfl) .none .none (.inl rfl) (by omega) hcap.1 (by omega) ?_
        refine JL_assign rfl ?_
        refine JL_done_up 61 [osl _ _ _ _ _ _] [_, _] rfl rfl (by simp only [nrmF]; rfl) rfl rfl ?_
        refine JC_seq ?_
        refine JC_seq ?_
        refine JC_region ?_
        refine JL_assign rfl ?_
        refine JL_done_up 61 [osl _ _ _ _ _ _] [_, _] rfl rfl (by simp only [nrmF]; rfl) rfl rfl ?_
        refine JC_block ?_
        refine JC_loopS ((Nat) × (Nat) × (List Pr)) (fun (j, kk, row) => 1 ≤ j ∧ CpSt dP l row k j kk) (fun (j, kk, row) => l.length - j) (fun u (j, kk, row) => [none, none, none, some (.int .i64 (kk : Nat)), none, some (.int .i64 (j : Nat)), none, none, none, none, none, none, none, none, none, none, none, none, none, none, none, none, none, none, none, none, none, none, none, some (u 29), some (u 30), some (u 31), some (u 32), some (u 33), some (u 34), some (u 35), some (u 36), some (u 37), some (u 38), some (u 39), some (u 40), some (u 41), some (u 42), some (u 43), some (u 44), some (u 45), some (u 46), some (u 47), some (u 48), some (u 49), some (u 50), some (u 51), some (u 52), some (u 53), none, none, none, none, none, none, none]) (fun (j, kk, row) => [some (osl ad l.length c 53 2 (pcells row))]) (fun (j, kk, row) => []) (1, k, l) (by kernel_rfl) ?_ (by kernel_rfl) ?_ ?_
        · exact ⟨Nat.le_refl _, CpSt.start (by omega) (by omega) hne h25⟩
        · exact subset_nil
        intro u i hC
        obtain ⟨j, kk, row⟩ := i
        obtain ⟨hj, hS⟩ := hC
        refine JC_norm ⟨61, [], [_, _, _, _, _, _, _, _, _, _, _, _, _, _, _, _, _, _, _, _, _, _, _, _, _, _, _, _, _, _, _, _, _, _, _, _, _, _, _, _, _, _, _, _, _, _, _, _, _, _, _, _, _, _, _, _, _, _, _, _, _]⟩ [osl _ _ _ _ _ _] [_, _] rfl rfl rfl ?_
        have hlt := hS.lt
        have hbnd := hS.bnd
        have hlen := hS.len
        refine JC_seq ?_
        refine JC_seq ?_
        refine JC_region ?_
        refine JL_move rfl ?_
        refine JL_move rfl ?_
        refine JL_len sl22 rfl ?_
        refine JL_lss rfl rfl ?_
        refine JL_split (fun h32 => ?_) (fun h32 => ?_)
        · refine JL_done_up 61 [osl _ _ _ _ _ _] [_, _] rfl rfl (by simp only [nrmF]; rfl) rfl rfl ?_
          refine JC_true rfl ?_
          refine JC_skip ?_
          refine JE_then ?_
          refine JC_seq ?_
          refine JC_block ?_
          refine JC_seq ?_
          refine JC_drawT mixed 9 [spV 35 [] _, spV 36 [] _, spV 37 [0, 1] _, spV 38 [2] _, spV 39 [] _, spV 40 [] _, spV 41 [5] _, spV 42 [4, 6] _, spV 43 [7] _] ⟨OblS_V (fun vals ex ψ => (by
              refine JL_move rfl ?_
              exact JL_nil (JE_stepV rfl ss0))), OblS_V (fun vals ex ψ => (by
              refine JL_move rfl ?_
              exact JL_nil (JE_stepV rfl ss0))), OblS_V (fun vals ex ψ => (by
              refine JL_normQ _ (_ :: _ :: ψ) rfl rfl ?_
              refine JL_indexAddr j sl22 rfl rfl rfl (by omega) (by refine Reads.subP (row := row) (n := l.length) (E := 53) 0 ?_ k ?_; all_goals first | exact rfl | omega) (by rw [pcells_length, List.length_drop]; have := hS.len; omega) ?_
              exact JL_nil (JE_stepV rfl ss0))), OblS_V (fun vals ex ψ => (by
              refine JL_normQ _ (_ :: _ :: ψ) rfl rfl ?_
              refine JL_loadEA (vs := [_, _]) ty53 (Nat.zero_lt_succ _) rfl (by refine Reads.subP (row := row) (n := l.length) (E := 53) 0 ?_ k ?_; all_goals first | exact rfl | omega) (pcells_getA (l := (row.drop k)) (j := j) (by rw [List.length_drop]; omega)) ?_
              rw [getD_dropG, hS.post _ (by omega) (by omega)]
              exact JL_nil (JE_stepV rfl ss0))), OblS_V (fun vals ex ψ => (by
              refine JL_move rfl ?_
              exact JL_nil (JE_stepV rfl ss0))), OblS_V (fun vals ex ψ => (by
              refine JL_move rfl ?_
              exact JL_nil (JE_stepV rfl ss0))), OblS_V (fun vals ex ψ => (by
              refine JL_sub_to rfl rfl (IntWalk.i64_in _ (by omega)) ?_
              rw [show ((j : Int) - 1 : Int) = ((j - 1 : Nat) : Int) from by omega]
              exact JL_nil (JE_stepV rfl ss0))), OblS_V (fun vals ex ψ => (by
              refine JL_normQ _ (_ :: _ :: ψ) rfl rfl ?_
              refine JL_indexAddr (j - 1) sl22 rfl rfl rfl (by omega) (by refine Reads.subP (row := row) (n := l.length) (E := 53) 0 ?_ k ?_; all_goals first | exact rfl | omega) (by rw [pcells_length, List.length_drop]; have := hS.len; omega) ?_
              exact JL_nil (JE_stepV rfl ss0))), OblS_V (fun vals ex ψ => (by
              refine JL_normQ _ (_ :: _ :: ψ) rfl rfl ?_
              refine JL_loadEA (vs := [_, _]) ty53 (Nat.zero_lt_succ _) rfl (by refine Reads.subP (row := row) (n := l.length) (E := 53) 0 ?_ k ?_; all_goals first | exact rfl | omega) (pcells_getA (l := (row.drop k)) (j := (j - 1)) (by rw [List.length_drop]; omega)) ?_
              rw [getD_dropG, hS.post _ (by omega) (by omega)]
              rw [show k + (j - 1) = k + j - 1 from by omega]
              exact JL_nil (JE_stepV rfl ss0))), trivial⟩ (by kernel_rfl) (fun vals bs => ?_)
          refine JL_normL [_] ⟨61, [(35, _), (36, _), (37, _), (38, _), (39, _), (40, _), (41, _), (42, _), (43, _)], _⟩ [osl _ _ _ _ _ _] [_, _] rfl rfl rfl rfl ?_
          refine JL_neqP eqArc rfl rfl ?_
          refine JL_split (fun h44 => ?_) (fun h44 => ?_)
          · refine JL_done_up 61 [osl _ _ _ _ _ _] [_, _] rfl rfl (by simp only [nrmF]; rfl) rfl rfl ?_
            refine JC_true rfl ?_
            refine JC_seq ?_
            refine JC_region ?_
            refine JL_move rfl ?_
            refine JL_move rfl ?_
            refine JL_move rfl ?_
            refine JL_move rfl ?_
            refine JL_indexAddr j sl22 rfl rfl rfl (by omega) (by refine Reads.subP (row := row) (n := l.length) (E := 53) 0 ?_ k ?_; all_goals first | exact rfl | omega) (by rw [pcells_length, List.length_drop]; have := hS.len; omega) ?_
            refine JL_loadEA (vs := [_, _]) ty53 (Nat.zero_lt_succ _) rfl (by refine Reads.subP (row := row) (n := l.length) (E := 53) 0 ?_ k ?_; all_goals first | exact rfl | omega) (pcells_getA (l := (row.drop k)) (j := j) (by rw [List.length_drop]; omega)) ?_
            rw [getD_dropG, hS.post _ (by omega) (by omega)]
            refine JL_indexAddr kk sl22 rfl rfl rfl (by omega) (Reads.own 0 rfl) (by rw [pcells_length]; omega) ?_
            refine JL_storeE (vs := [_, _]) 0 ty53 (Nat.zero_lt_succ _) rfl rfl rfl (AllOne.cons rfl (AllOne.cons rfl AllOne.nil)) rfl (by rw [pcells_length]; simp only [List.length_cons, List.length_nil]; omega) ?_
            rw [show setAll (pcells row) (kk * 2) (pc (l.getD (k + j) dP)) = pcells (row.set kk (l.getD (k + j) dP)) from pcells_setA _ (by omega)]
            refine JL_done_up 61 [osl _ _ _ _ _ _] [_, _] rfl rfl (by simp only [nrmF]; rfl) rfl rfl ?_
            refine JC_region ?_
            refine JL_move rfl ?_
            refine JL_add_to rfl rfl (IntWalk.i64_in _ (by omega)) ?_
            refine JL_assign rfl ?_
            refine JL_nil_up 61 [osl _ _ _ _ _ _] [_, _] rfl rfl (by simp only [nrmF]; rfl) rfl rfl ?_
            refine JE_block_normal ?_
            refine JE_then ?_
            refine JC_region ?_
            refine JL_move rfl ?_
            refine JL_add_to rfl rfl (IntWalk.i64_in _ (by omega)) ?_
            refine JL_assign rfl ?_
            refine JL_nil_up 61 [osl _ _ _ _ _ _] [_, _] rfl rfl (by simp only [nrmF]; rfl) rfl rfl ?_
            refine JE_nextS (j + 1, kk + 1, row.set kk (l.getD (k + j) dP)) (by kernel_rfl) ?_ ?_ (by kernel_rfl) ?_
            · exact ⟨by omega, hS.put (by omega) h44⟩
            · first | omega | (dsimp only; omega)
            · exact subset_app subset_nil ss0
          · refine JL_done_up 61 [osl _ _ _ _ _ _] [_, _] rfl rfl (by simp only [nrmF]; rfl) rfl rfl ?_
            refine JC_false rfl ?_
            refine JC_skip ?_
            refine JE_block_normal ?_
            refine JE_then ?_
            refine JC_region ?_
            refine JL_move rfl ?_
            refine JL_add_to rfl rfl (IntWalk.i64_in _ (by omega)) ?_
            refine JL_assign rfl ?_
            refine JL_nil_up 61 [osl _ _ _ _ _ _] [_, _] rfl rfl (by simp only [nrmF]; rfl) rfl rfl ?_
            refine JE_nextS (j + 1, kk, row) (by kernel_rfl) ?_ ?_ (by kernel_rfl) ?_
            · exact ⟨by omega, hS.hold (by omega) (by omega) (Classical.byContradiction h44)⟩
            · first | omega | (dsimp only; omega)
            · exact subset_app subset_nil ss0
        · refine JL_done_up 61 [osl _ _ _ _ _ _] [_, _] rfl rfl (by simp only [nrmF]; rfl) rfl rfl ?_
          refine JC_false rfl ?_
          refine JC_exit ?_
          refine JE_then_exit ?_
          refine JE_nextS_exit ?_
          refine JE_block_exit ?_
          refine JE_then ?_
          refine JC_seq ?_
          refine JC_region ?_
          refine JL_move rfl ?_
          refine JL_move rfl ?_
          refine JL_slice kk l.length c sl22 rfl (.some rfl rfl) .none .none (.inl rfl) (by omega) hcap.1 (by omega) ?_
          refine JL_clear (n := l.length) (cap := c) (k := kk) 0 sl22 rfl (AllOne.cons rfl (AllOne.cons rfl AllOne.nil)) rfl rfl (by omega) ?_
          have hjE : k + j = l.length := by omega
          have hpre := hS.pre
          have hkk := hS.cnt
          rw [hjE] at hpre hkk
          rw [show (pcells row).take (kk * 2) = pcells (cpG dP l l.length) from by rw [← hpre]; exact pcells_take _ _]
          refine JL_done_up 61 [osl _ _ _ _ _ _] [_, _] rfl rfl (by simp only [nrmF]; rfl) rfl rfl ?_
          refine JC_seq ?_
          refine JC_region ?_
          refine JL_move rfl ?_
          refine JL_move rfl ?_
          refine JL_sliceTo kk sl22 rfl rfl (by omega) (by omega) ?_
          refine JL_assign rfl ?_
          refine JL_done_up 61 [osl _ _ _ _ _ _] [_, _] rfl rfl (by simp only [nrmF]; rfl) rfl rfl ?_
          refine JC_ret ?_
          refine JE_block_ret ?_
          refine JE_then_ret ?_
          refine JE_nextS_ret ?_
          refine JE_block_ret ?_
          refine JE_then_ret ?_
          subst hkk
          refine JE_retO (vs := [_]) [] Tryz.results46 ⟨rfl, rfl⟩ ?_ ?_ (by repeat (first | with_reducible exact mm0 | refine mmS ?_)) (by repeat (first | with_reducible exact mm0 | refine mmS ?_))
          · exact ⟨rfl, rfl, rfl⟩
          · exact all_nil
      · refine JL_done_up 61 [osl _ _ _ _ _ _] [_, _] rfl rfl (by simp only [nrmF]; rfl) rfl rfl ?_
        refine JC_false rfl ?_
        refine JC_skip ?_
        refine JE_block_normal ?_
        refine JE_then ?_
        refine JC_region ?_
        refine JL_move rfl ?_
        refine JL_add_to rfl rfl (IntWalk.i64_in _ (by omega)) ?_
        refine JL_assign rfl ?_
        refine JL_nil_up 61 [osl _ _ _ _ _ _] [_, _] rfl rfl (by simp only [nrmF]; rfl) rfl rfl ?_
        refine JE_nextS (k + 1) (by kernel_rfl) ?_ ?_ (by kernel_rfl) ?_
        · exact ⟨by omega, by omega, fun j h0 hj => by
          by_cases e : j = k
          · subst e; exact h25
          · exact hne j h0 (by omega)⟩
        · first | omega | (dsimp only; omega)
        · exact subset_app subset_nil ss0
    · refine JL_done_up 61 [osl _ _ _ _ _ _] [_, _] rfl rfl (by simp only [nrmF]; rfl) rfl rfl ?_
      refine JC_false rfl ?_
      refine JC_exit ?_
      refine JE_then_exit ?_
      refine JE_nextS_exit ?_
      refine JE_block_exit ?_
      refine JE_then ?_
      refine JC_seq ?_
      refine JC_region ?_
      refine JL_move rfl ?_
      refine JL_assign rfl ?_
      refine JL_done_up 61 [osl _ _ _ _ _ _] [_, _] rfl rfl (by simp only [nrmF]; rfl) rfl rfl ?_
      refine JC_ret ?_
      have hkE : k = l.length := by omega
      subst hkE
      refine JE_retO (vs := [_]) [] Tryz.results46 ⟨rfl, rfl⟩ ?_ ?_ (by repeat (first | with_reducible exact mm0 | refine mmS ?_)) (by repeat (first | with_reducible exact mm0 | refine mmS ?_))
      · rw [show cpG dP l l.length = l from cpG_all hne]; exact ⟨rfl, rfl, rfl⟩
      · exact all_nil

theorem vtx_con {n i : Int} :
    ConF Tryz.prog 41 [.int .i64 n, .int .i64 i] []
      (fun v φo => v = .bool (decide (0 ≤ i ∧ i < n)) ∧ φo = []) := by
  refine ConF_of Tryz.func41 rfl 12 _ rfl rfl ?_
  intro w0
  refine JC_norm ⟨12, [], [_, _, _, _, _, _, _, _, _, _, _, _]⟩ [] [] rfl rfl rfl ?_
  refine JC_seq ?_
  refine JC_region ?_
  refine JL_assign rfl ?_
  refine JL_done_up 12 [] [] rfl rfl (by simp only [nrmF]; rfl) rfl rfl ?_
  refine JC_seq ?_
  rcases vtx3 n i with hA | ⟨hA, hB⟩ | ⟨hA, hB⟩
  · refine JC_region ?_
    refine JL_move rfl ?_
    refine JL_geq rfl rfl ?_
    rw [decide_eq_false (p := 0 ≤ i) (by omega)]
    refine JL_move rfl ?_
    refine JL_guard_no rfl rfl ?_
    refine JL_guard_no rfl rfl ?_
    refine JL_guard_no rfl rfl ?_
    refine JL_pick_f rfl rfl ?_
    refine JL_assign rfl ?_
    refine JL_done_up 12 [] [] rfl rfl (by simp only [nrmF]; rfl) rfl rfl ?_
    refine JC_ret ?_
    refine JE_ret (vs := [_]) [] Tryz.results41 ⟨rfl, rfl⟩ ?_ ?_
    · rw [decide_eq_false (p := 0 ≤ i ∧ i < n) (fun h => by omega)]; exact ⟨rfl, rfl⟩
    · exact all_nil
  · refine JC_region ?_
    refine JL_move rfl ?_
    refine JL_geq rfl rfl ?_
    rw [decide_eq_true (p := 0 ≤ i) (by omega)]
    refine JL_move rfl ?_
    refine JL_guard_yes rfl rfl ?_
    refine JL_move rfl ?_
    refine JL_guard_yes rfl rfl ?_
    refine JL_move rfl ?_
    refine JL_guard_yes rfl rfl ?_
    refine JL_lss rfl rfl ?_
    rw [decide_eq_false (p := i < n) (by omega)]
    refine JL_pick_t rfl rfl ?_
    refine JL_assign rfl ?_
    refine JL_done_up 12 [] [] rfl rfl (by simp only [nrmF]; rfl) rfl rfl ?_
    refine JC_ret ?_
    refine JE_ret (vs := [_]) [] Tryz.results41 ⟨rfl, rfl⟩ ?_ ?_
    · rw [decide_eq_false (p := 0 ≤ i ∧ i < n) (fun h => by omega)]; exact ⟨rfl, rfl⟩
    · exact all_nil
  · refine JC_region ?_
    refine JL_move rfl ?_
    refine JL_geq rfl rfl ?_
    rw [decide_eq_true (p := 0 ≤ i) (by omega)]
    refine JL_move rfl ?_
    refine JL_guard_yes rfl rfl ?_
    refine JL_move rfl ?_
    refine JL_guard_yes rfl rfl ?_
    refine JL_move rfl ?_
    refine JL_guard_yes rfl rfl ?_
    refine JL_lss rfl rfl ?_
    rw [decide_eq_true (p := i < n) (by omega)]
    refine JL_pick_t rfl rfl ?_
    refine JL_assign rfl ?_
    refine JL_done_up 12 [] [] rfl rfl (by simp only [nrmF]; rfl) rfl rfl ?_
    refine JC_ret ?_
    refine JE_ret (vs := [_]) [] Tryz.results41 ⟨rfl, rfl⟩ ?_ ?_
    · rw [decide_eq_true (p := 0 ≤ i ∧ i < n) ⟨hA, hB⟩]; exact ⟨rfl, rfl⟩
    · exact all_nil

set_option maxHeartbeats 1000000 in
theorem share_con {ad : Option Addr} {c : Nat} {l : List Pr} {n a b : Int} (hln : l.length ≤ 1000) (hcp : l.length ≤ c) :
    ConF Tryz.prog 14 [.int .i64 n, .slice ad l.length c, .int .i64 a, .int .i64 b] [vCells ad (pcells l)]
      (FOE (shO n l a b) (shE n l a b)) := by
  refine ConF_of Tryz.func14 rfl 64 _ rfl rfl ?_
  intro w0
  refine JC_norm ⟨64, [], [_, _, _, _, _, _, _, _, _, _, _, _, _, _, _, _, _, _, _, _, _, _, _, _, _, _, _, _, _, _, _, _, _, _, _, _, _, _, _, _, _, _, _, _, _, _, _, _, _, _, _, _, _, _, _, _, _, _, _, _, _, _, _, _]⟩ [] [_] rfl rfl rfl ?_
  refine JC_seq ?_
  refine JC_region ?_
  refine JL_alloc z36 (fun b8 => ?_)
  refine JL_assign rfl ?_
  refine JL_done_up 64 [box _ _ [_, _, _]] [_] rfl rfl (by simp only [nrmF]; rfl) rfl rfl ?_
  refine JC_seq ?_
  refine JC_region ?_
  refine JL_move rfl ?_
  refine JL_move rfl ?_
  refine JL_callF' (Asks.cons (holds_of_mem (by repeat (first | with_reducible exact mm0 | refine mmS ?_))) Asks.nil) (cntd_con (by omega)) rfl ca40 ⟨rfl, rfl, rfl⟩ ?_
  rintro _ _ ⟨rfl, rfl⟩
  refine JL_move rfl ?_
  refine JL_extract rfl rfl ?_
  refine JL_extract rfl rfl ?_
  refine JL_assign rfl ?_
  refine JL_assign rfl ?_
  refine JL_done_up 64 [box _ _ [_, _, _]] [_] rfl rfl (by simp only [nrmF]; rfl) rfl rfl ?_
  refine JC_seq ?_
  refine JC_seq ?_
  refine JC_region ?_
  refine JL_move rfl ?_
  refine JL_neq rfl rfl ?_
  refine JL_split (fun h22 => ?_) (fun h22 => ?_)
  · refine JL_done_up 64 [box _ _ [_, _, _]] [_] rfl rfl (by simp only [nrmF]; rfl) rfl rfl ?_
    refine JC_true rfl ?_
    refine JC_seq ?_
    refine JC_region ?_
    refine JL_build (cs := [_, _, _]) [] st36 rfl rfl ?_
    refine JL_move rfl ?_
    refine JL_store (vs := [_, _, _]) 0 ty36 rfl rfl rfl (AllOne.cons rfl (AllOne.cons rfl (AllOne.cons rfl AllOne.nil))) rfl (Nat.le_of_ble_eq_true rfl) ?_
    refine JL_assign rfl ?_
    refine JL_done_up 64 [box _ _ [_, _, _]] [_] rfl rfl (by simp only [nrmF]; rfl) rfl rfl ?_
    refine JC_ret ?_
    refine JE_then_ret ?_
    refine JE_nilView ?_
    refine JE_ret (vs := [_, _]) [vCells none (u32s []), vCells none (u32s [])] Tryz.results14 ⟨RV.cell (vs := [_, _, _]) 0 ty36 rfl rfl ⟨rfl, rfl, rfl, trivial⟩, rfl, rfl⟩ ?_ ?_
    · exact ⟨none, 0, none, 0, by rw [(sh_no h22).1, (sh_no h22).2]; rfl, by rw [(sh_no h22).1]; rfl⟩
    · exact (all_cons (by repeat (first | with_reducible exact mm0 | refine mmS ?_)) (all_cons (by repeat (first | with_reducible exact mm0 | refine mmS ?_)) all_nil))
  · refine JL_done_up 64 [box _ _ [_, _, _]] [_] rfl rfl (by simp only [nrmF]; rfl) rfl rfl ?_
    refine JC_false rfl ?_
    refine JC_skip ?_
    refine JE_then ?_
    refine JC_seq ?_
    refine JC_seq ?_
    have hz : seqE n l = 0 := Classical.byContradiction h22
    rcases shr4 n a b with ha | ⟨ha, hb⟩ | ⟨ha, hb, hab⟩ | ⟨ha, hb, hab⟩
    · have hz : seqE n l = 0 := Classical.byContradiction h22
      refine JC_region ?_
      refine JL_move rfl ?_
      refine JL_move rfl ?_
      refine JL_callF' Asks.nil (vtx_con (n := n) (i := a)) rfl ca41 ⟨rfl, rfl, rfl⟩ ?_
      rintro _ _ ⟨rfl, rfl⟩
      rw [decide_eq_false ha]
      refine JL_not rfl ?_
      rw [Bool.not_false]
      refine JL_move rfl ?_
      refine JL_guard_no rfl rfl ?_
      refine JL_guard_no rfl rfl ?_
      refine JL_guard_no rfl rfl ?_
      refine JL_guard_no rfl rfl ?_
      refine JL_pick_t rfl rfl ?_
      refine JL_move rfl ?_
      refine JL_guard_no rfl rfl ?_
      refine JL_guard_no rfl rfl ?_
      refine JL_guard_no rfl rfl ?_
      refine JL_pick_t rfl rfl ?_
      refine JL_done_up 64 [box _ _ [_, _, _]] [_] rfl rfl (by simp only [nrmF]; rfl) rfl rfl ?_
      refine JC_true rfl ?_
      refine JC_seq ?_
      refine JC_region ?_
      refine JL_build (cs := [_, _, _]) [] st36 rfl rfl ?_
      refine JL_store (vs := [_, _, _]) 0 ty36 rfl rfl rfl (AllOne.cons rfl (AllOne.cons rfl (AllOne.cons rfl AllOne.nil))) rfl (Nat.le_of_ble_eq_true rfl) ?_
      refine JL_assign rfl ?_
      refine JL_done_up 64 [box _ _ [_, _, _]] [_] rfl rfl (by simp only [nrmF]; rfl) rfl rfl ?_
      refine JC_ret ?_
      refine JE_then_ret ?_
      refine JE_nilView ?_
      refine JE_ret (vs := [_, _]) [vCells none (u32s []), vCells none (u32s [])] Tryz.results14 ⟨RV.cell (vs := [_, _, _]) 0 ty36 rfl rfl ⟨rfl, rfl, rfl, trivial⟩, rfl, rfl⟩ ?_ ?_
      · exact ⟨none, 0, none, 0, by rw [(sh_bad hz (fun h => ha h.1)).1, (sh_bad hz (fun h => ha h.1)).2]; rfl, by rw [(sh_bad hz (fun h => ha h.1)).1]; rfl⟩
      · exact (all_cons (by repeat (first | with_reducible exact mm0 | refine mmS ?_)) (all_cons (by repeat (first | with_reducible exact mm0 | refine mmS ?_)) all_nil))
    · have hz : seqE n l = 0 := Classical.byContradiction h22
      refine JC_region ?_
      refine JL_move rfl ?_
      refine JL_move rfl ?_
      refine JL_callF' Asks.nil (vtx_con (n := n) (i := a)) rfl ca41 ⟨rfl, rfl, rfl⟩ ?_
      rintro _ _ ⟨rfl, rfl⟩
      rw [decide_eq_true ha]
      refine JL_not rfl ?_
      rw [Bool.not_true]
      refine JL_move rfl ?_
      refine JL_guard_yes rfl rfl ?_
      refine JL_move rfl ?_
      refine JL_guard_yes rfl rfl ?_
      refine JL_move rfl ?_
      refine JL_guard_yes rfl rfl ?_
      refine JL_callF' Asks.nil (vtx_con (n := n) (i := b)) rfl ca41 ⟨rfl, rfl, rfl⟩ ?_
      rintro _ _ ⟨rfl, rfl⟩
      rw [decide_eq_false hb]
      refine JL_guard_yes rfl rfl ?_
      refine JL_not rfl ?_
      rw [Bool.not_false]
      refine JL_pick_f rfl rfl ?_
      refine JL_move rfl ?_
      refine JL_guard_no rfl rfl ?_
      refine JL_guard_no rfl rfl ?_
      refine JL_guard_no rfl rfl ?_
      refine JL_pick_t rfl rfl ?_
      refine JL_done_up 64 [box _ _ [_, _, _]] [_] rfl rfl (by simp only [nrmF]; rfl) rfl rfl ?_
      refine JC_true rfl ?_
      refine JC_seq ?_
      refine JC_region ?_
      refine JL_build (cs := [_, _, _]) [] st36 rfl rfl ?_
      refine JL_store (vs := [_, _, _]) 0 ty36 rfl rfl rfl (AllOne.cons rfl (AllOne.cons rfl (AllOne.cons rfl AllOne.nil))) rfl (Nat.le_of_ble_eq_true rfl) ?_
      refine JL_assign rfl ?_
      refine JL_done_up 64 [box _ _ [_, _, _]] [_] rfl rfl (by simp only [nrmF]; rfl) rfl rfl ?_
      refine JC_ret ?_
      refine JE_then_ret ?_
      refine JE_nilView ?_
      refine JE_ret (vs := [_, _]) [vCells none (u32s []), vCells none (u32s [])] Tryz.results14 ⟨RV.cell (vs := [_, _, _]) 0 ty36 rfl rfl ⟨rfl, rfl, rfl, trivial⟩, rfl, rfl⟩ ?_ ?_
      · exact ⟨none, 0, none, 0, by rw [(sh_bad hz (fun h => hb h.2.1)).1, (sh_bad hz (fun h => hb h.2.1)).2]; rfl, by rw [(sh_bad hz (fun h => hb h.2.1)).1]; rfl⟩
      · exact (all_cons (by repeat (first | with_reducible exact mm0 | refine mmS ?_)) (all_cons (by repeat (first | with_reducible exact mm0 | refine mmS ?_)) all_nil))
    · have hz : seqE n l = 0 := Classical.byContradiction h22
      refine JC_region ?_
      refine JL_move rfl ?_
      refine JL_move rfl ?_
      refine JL_callF' Asks.nil (vtx_con (n := n) (i := a)) rfl ca41 ⟨rfl, rfl, rfl⟩ ?_
      rintro _ _ ⟨rfl, rfl⟩
      rw [decide_eq_true ha]
      refine JL_not rfl ?_
      rw [Bool.not_true]
      refine JL_move rfl ?_
      refine JL_guard_yes rfl rfl ?_
      refine JL_move rfl ?_
      refine JL_guard_yes rfl rfl ?_
      refine JL_move rfl ?_
      refine JL_guard_yes rfl rfl ?_
      refine JL_callF' Asks.nil (vtx_con (n := n) (i := b)) rfl ca41 ⟨rfl, rfl, rfl⟩ ?_
      rintro _ _ ⟨rfl, rfl⟩
      rw [decide_eq_true hb]
      refine JL_guard_yes rfl rfl ?_
      refine JL_not rfl ?_
      rw [Bool.not_true]
      refine JL_pick_f rfl rfl ?_
      refine JL_move rfl ?_
      refine JL_guard_yes rfl rfl ?_
      refine JL_move rfl ?_
      refine JL_guard_yes rfl rfl ?_
      refine JL_move rfl ?_
      refine JL_guard_yes rfl rfl ?_
      refine JL_eql rfl rfl ?_
      rw [decide_eq_true (p := a = b) (by omega)]
      refine JL_pick_f rfl rfl ?_
      refine JL_done_up 64 [box _ _ [_, _, _]] [_] rfl rfl (by simp only [nrmF]; rfl) rfl rfl ?_
      refine JC_true rfl ?_
      refine JC_seq ?_
      refine JC_region ?_
      refine JL_build (cs := [_, _, _]) [] st36 rfl rfl ?_
      refine JL_store (vs := [_, _, _]) 0 ty36 rfl rfl rfl (AllOne.cons rfl (AllOne.cons rfl (AllOne.cons rfl AllOne.nil))) rfl (Nat.le_of_ble_eq_true rfl) ?_
      refine JL_assign rfl ?_
      refine JL_done_up 64 [box _ _ [_, _, _]] [_] rfl rfl (by simp only [nrmF]; rfl) rfl rfl ?_
      refine JC_ret ?_
      refine JE_then_ret ?_
      refine JE_nilView ?_
      refine JE_ret (vs := [_, _]) [vCells none (u32s []), vCells none (u32s [])] Tryz.results14 ⟨RV.cell (vs := [_, _, _]) 0 ty36 rfl rfl ⟨rfl, rfl, rfl, trivial⟩, rfl, rfl⟩ ?_ ?_
      · exact ⟨none, 0, none, 0, by rw [(sh_bad hz (fun h => h.2.2 hab)).1, (sh_bad hz (fun h => h.2.2 hab)).2]; rfl, by rw [(sh_bad hz (fun h => h.2.2 hab)).1]; rfl⟩
      · exact (all_cons (by repeat (first | with_reducible exact mm0 | refine mmS ?_)) (all_cons (by repeat (first | with_reducible exact mm0 | refine mmS ?_)) all_nil))
    · have hz : seqE n l = 0 := Classical.byContradiction h22
      refine JC_region ?_
      refine JL_move rfl ?_
      refine JL_move rfl ?_
      refine JL_callF' Asks.nil (vtx_con (n := n) (i := a)) rfl ca41 ⟨rfl, rfl, rfl⟩ ?_
      rintro _ _ ⟨rfl, rfl⟩
      rw [decide_eq_true ha]
      refine JL_not rfl ?_
      rw [Bool.not_true]
      refine JL_move rfl ?_
      refine JL_guard_yes rfl rfl ?_
      refine JL_move rfl ?_
      refine JL_guard_yes rfl rfl ?_
      refine JL_move rfl ?_
      refine JL_guard_yes rfl rfl ?_
      refine JL_callF' Asks.nil (vtx_con (n := n) (i := b)) rfl ca41 ⟨rfl, rfl, rfl⟩ ?_
      rintro _ _ ⟨rfl, rfl⟩
      rw [decide_eq_true hb]
      refine JL_guard_yes rfl rfl ?_
      refine JL_not rfl ?_
      rw [Bool.not_true]
      refine JL_pick_f rfl rfl ?_
      refine JL_move rfl ?_
      refine JL_guard_yes rfl rfl ?_
      refine JL_move rfl ?_
      refine JL_guard_yes rfl rfl ?_
      refine JL_move rfl ?_
      refine JL_guard_yes rfl rfl ?_
      refine JL_eql rfl rfl ?_
      rw [decide_eq_false (p := a = b) (by omega)]
      refine JL_pick_f rfl rfl ?_
      refine JL_done_up 64 [box _ _ [_, _, _]] [_] rfl rfl (by simp only [nrmF]; rfl) rfl rfl ?_
      refine JC_false rfl ?_
      refine JC_skip ?_
      refine JE_then ?_
      refine JC_seq ?_
      refine JC_region ?_
      refine JL_move rfl ?_
      refine JL_move rfl ?_
      refine JL_len sl22 rfl ?_
      refine JL_move rfl ?_
      refine JL_len sl22 rfl ?_
      refine JL_slice 0 l.length l.length sl22 rfl .none (.some rfl rfl) (.some rfl rfl) (.inr (by simp)) (by omega) (Nat.le_refl _) hcp ?_
      rw [subAd_zero, Nat.sub_zero]
      refine JL_move rfl ?_
      refine JL_move rfl ?_
      refine JL_build (cs := [_, _]) [(0, [_]), (1, [_])] st53 ⟨⟨rfl, _, rfl, rfl⟩, ⟨rfl, _, rfl, rfl⟩, rfl⟩ rfl ?_
      refine JL_buildN (cs0 := [.int .i64 0, .int .i64 0]) (cs := [_, _]) [(0, [_, _])] sl22 (by kernel_rfl) ⟨⟨rfl, _, rfl, rfl⟩, rfl⟩ rfl rfl rfl rfl (fun g50 => ?_)
      refine JL_appendF (news := pc (a, b)) sl22 rfl (by decide) rfl rfl (Reads.view (by repeat (first | with_reducible exact mm0 | refine mmS ?_))) (pcells_length l) rfl (by decide) rfl (Reads.own 1 rfl) (by omega) (by omega) (fun g51 hlt51 cap51 => ?_)
      refine JL_dropAt 1 ?_
      refine JL_norm _ [box _ _ [_, _, _], osl _ _ _ _ _ _] [_] rfl rfl rfl ?_
      rw [show pcells l ++ pc (a, b) = pcells (l ++ [(a, b)]) from pcells_snoc l _, show l.length + 1 = (l ++ [(a, b)]).length from by rw [List.length_append]; rfl]
      have hmL : (l ++ [(a, b)]).length ≤ 1001 := by rw [List.length_append]; simp only [List.length_cons, List.length_nil]; omega
      have hmS : (moreA l a b).length ≤ 1001 := Nat.le_trans (srt_len _) hmL
      refine JL_assign rfl ?_
      refine JL_done_up 64 [box _ _ [_, _, _], osl _ _ _ _ _ _] [_] rfl rfl (by simp only [nrmF]; rfl) rfl rfl ?_
      refine JC_seq ?_
      refine JC_region ?_
      refine JL_move rfl ?_
      refine JL_callOF (σ1 := [box _ _ [_, _, _]]) (sort_con (l := l ++ [(a, b)]) (by omega)) rfl (fun q hq j hj => hlt51 q (List.mem_singleton.1 hq ▸ List.mem_cons_self) j hj) rfl ca42 ⟨rfl, rfl, rfl⟩ ?_
      rintro _ _ _ ⟨rfl, rfl, d53, hp53, hl53, hs53, rfl⟩
      refine JL_norm _ [box _ _ [_, _, _], osl _ _ _ _ _ _] [_] rfl rfl rfl ?_
      rw [← hl53]
      refine JL_done_up 64 [box _ _ [_, _, _], osl _ _ _ _ _ _] [_] rfl rfl (by simp only [nrmF]; rfl) rfl rfl ?_
      refine JC_seq ?_
      refine JC_region ?_
      refine JL_move rfl ?_
      refine JL_move rfl ?_
      refine JL_callOF (σ1 := [box _ _ [_, _, _]]) (cpa_con (l := d53) (by omega)) rfl (fun q hq j hj => hlt51 q (List.mem_singleton.1 hq ▸ List.mem_cons_self) j hj) rfl ca46 ⟨rfl, rfl⟩ ?_
      rintro _ _ _ ⟨rfl, rfl, rfl⟩
      refine JL_norm _ [box _ _ [_, _, _], osl _ _ _ _ _ _] [_] rfl rfl rfl ?_
      rw [show cpG dP d53 d53.length = moreA l a b from cpD_srt hp53 hs53]
      refine JL_callF' (Asks.cons (by first | exact holds_of_mem (by repeat (first | with_reducible exact mm0 | refine mmS ?_)) | (exact holds_of_own 1 rfl)) Asks.nil) (cntd_con (l := moreA l a b) (by omega)) rfl ca40 ⟨rfl, rfl, rfl⟩ ?_
      rintro _ _ ⟨rfl, rfl⟩
      refine JL_move rfl ?_
      refine JL_extract rfl rfl ?_
      refine JL_extract rfl rfl ?_
      refine JL_assign rfl ?_
      refine JL_assign rfl ?_
      refine JL_done_up 64 [box _ _ [_, _, _], osl _ _ _ _ _ _] [_] rfl rfl (by simp only [nrmF]; rfl) rfl rfl ?_
      refine JC_seq ?_
      have hc1 := cntN_in n l
      have hc2 := cntN_in n (moreA l a b)
      refine JC_region ?_
      refine JL_move rfl ?_
      refine JL_move rfl ?_
      refine JL_callF' Asks.nil (fofi_con _ _ (by omega) (by omega)) rfl ca28 ⟨rfl, rfl, rfl⟩ ?_
      rintro _ _ ⟨ad63, cp63, be63, ce63, rfl, rfl⟩
      rw [show ofq (cntN n (moreA l a b)) (cntN n l) = shQ n l a b from rfl]
      refine JL_store (vs := [_, _, _]) 0 ty36 rfl rfl rfl (AllOne.cons rfl (AllOne.cons rfl (AllOne.cons rfl AllOne.nil))) rfl (Nat.le_of_ble_eq_true rfl) ?_
      refine JL_assign rfl ?_
      refine JL_done_up 64 [box _ _ [_, _, _], osl _ _ _ _ _ _] [_, _, _] rfl rfl (by simp only [nrmF]; rfl) rfl rfl ?_
      refine JC_ret ?_
      refine JE_ret (vs := [_, _]) [vCells ad63 (u32s (fnum (some (shQ n l a b)))), vCells be63 (u32s (fden (some (shQ n l a b))))] Tryz.results14 ⟨RV.cell (vs := [_, _, _]) 0 ty36 rfl rfl ⟨rfl, rfl, rfl, trivial⟩, rfl, rfl⟩ ?_ ?_
      · exact ⟨ad63, cp63, be63, ce63, by rw [(sh_ok hz ⟨ha, hb, hab⟩).1, (sh_ok hz ⟨ha, hb, hab⟩).2]; rfl, by rw [(sh_ok hz ⟨ha, hb, hab⟩).1]⟩
      · exact (all_cons (by repeat (first | with_reducible exact mm0 | refine mmS ?_)) (all_cons (by repeat (first | with_reducible exact mm0 | refine mmS ?_)) all_nil))

end Go.Fw.K
