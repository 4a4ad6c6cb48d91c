/- Walks through functions of the given program: each meets its contract. (Printed by a program of this repo.) -/
import Derived.Test.YtmbgbodkhdfdoaaDoorV1
import Derived.Test.YtmbgbodkhdfdoaaDoorProg
namespace Go.Fw.V2
open Go Go.RowKit Go.Proofs Go.Nat9 Go.Fw
attribute [local irreducible] JC JL JE
theorem ca71 : callable Tryd.prog 71 = true := by kernel_rfl
theorem ca94 : callable Tryd.prog 94 = true := by kernel_rfl
theorem fo24_0 : fOf Tryd.prog 24 0 = some 0 := by kernel_rfl
theorem it2 : intTy Tryd.prog 2 = some .i64 := by kernel_rfl
theorem it87 : intTy Tryd.prog 87 = some .u32 := by kernel_rfl
theorem mixed : Tryd.prog.follows .mixedOrders = true := by kernel_rfl
theorem sl22 : slOf Tryd.prog 22 = some (87, 1, 4, [.int .u32 0]) := by kernel_rfl
theorem st24 : stOf Tryd.prog 24 = some ([(0, 1)], [.slice none 0 0]) := by kernel_rfl
theorem ty22 : tyOf Tryd.prog 22 = some (false, 1) := by kernel_rfl
theorem ty24 : tyOf Tryd.prog 24 = some (true, 1) := by kernel_rfl
theorem ty87 : tyOf Tryd.prog 87 = some (false, 1) := by kernel_rfl
theorem us2 : (Tryd.prog.underlying 2).isSome = true := by kernel_rfl
theorem us87 : (Tryd.prog.underlying 87).isSome = true := by kernel_rfl
theorem z24 : zeroOf Tryd.prog 24 = some [.slice none 0 0] := by kernel_rfl
end Go.Fw.V2
namespace Go.Fw.K
open Go Go.RowKit Go.Proofs Go.Nat9 Go.Fw Go.Fw.V2
attribute [local irreducible] JC JL JE

theorem rcmp_con (ad1 : Option Addr) (n1 c1 : Nat) (L1 : List Nat) (x1 : Nat) (g1 : NIn n1 L1 x1 200000000) (ad2 : Option Addr) (n2 c2 : Nat) (L2 : List Nat) (x2 : Nat) (g2 : NIn n2 L2 x2 200000000) :
    ConF Tryd.prog 71 [.agg #[.slice ad1 n1 c1], .agg #[.slice ad2 n2 c2]] [vCells ad1 (u32s L1), vCells ad2 (u32s L2)]
      (fun v φo => v = .int .i64 (cmpN x1 x2) ∧ φo = []) := by
  have hs1 := g1.sz
  have hl1 := g1.le
  have hs2 := g2.sz
  have hl2 := g2.le
  refine ConF_of Tryd.func71 rfl 54 _ rfl rfl ?_
  intro w0
  refine JC_norm ⟨54, [], [_, _, _, _, _, _, _, _, _, _, _, _, _, _, _, _, _, _, _, _, _, _, _, _, _, _, _, _, _, _, _, _, _, _, _, _, _, _, _, _, _, _, _, _, _, _, _, _, _, _, _, _, _, _]⟩ [] [_, _] rfl rfl rfl ?_
  refine JC_seq ?_
  refine JC_region ?_
  refine JL_box rfl rfl (fun b2 => ?_)
  refine JL_box rfl rfl (fun b3 => ?_)
  refine JL_assign rfl ?_
  refine JL_done_up 54 [box _ _ [_], box _ _ [_]] [_, _] rfl rfl (by simp only [nrmF]; rfl) rfl rfl ?_
  refine JC_seq ?_
  refine JC_region ?_
  refine JL_loadA (vs := [_]) 0 ty24 rfl rfl ⟨rfl, trivial⟩ ?_
  refine JL_callF' (Asks.cons (holds_of_mem (by repeat (first | with_reducible exact mm0 | refine mmS ?_))) Asks.nil) (rnorm_con _ _ _ _ _ (g1.mono (by omega))) rfl ca94 ⟨rfl, rfl⟩ ?_
  rintro _ _ ⟨ad7, cap7, rfl, hk7, hm7, rfl⟩
  refine JL_store (vs := [_]) 0 ty24 rfl rfl rfl (AllOne.cons rfl AllOne.nil) rfl (Nat.le_of_ble_eq_true rfl) ?_
  refine JL_done_up 54 [box _ _ [_], box _ _ [_]] [_, _, _] rfl rfl (by simp only [nrmF]; rfl) rfl rfl ?_
  refine JC_seq ?_
  refine JC_region ?_
  refine JL_loadA (vs := [_]) 1 ty24 rfl rfl ⟨rfl, trivial⟩ ?_
  refine JL_callF' (Asks.cons (holds_of_mem (by repeat (first | with_reducible exact mm0 | refine mmS ?_))) Asks.nil) (rnorm_con _ _ _ _ _ (g2.mono (by omega))) rfl ca94 ⟨rfl, rfl⟩ ?_
  rintro _ _ ⟨ad9, cap9, rfl, hk9, hm9, rfl⟩
  refine JL_store (vs := [_]) 1 ty24 rfl rfl rfl (AllOne.cons rfl AllOne.nil) rfl (Nat.le_of_ble_eq_true rfl) ?_
  refine JL_done_up 54 [box _ _ [_], box _ _ [_]] [_, _, _, _] rfl rfl (by simp only [nrmF]; rfl) rfl rfl ?_
  refine JC_seq ?_
  refine JC_seq ?_
  refine JC_region ?_
  refine JL_fieldAddr fo24_0 rfl ?_
  refine JL_load 0 ty22 rfl rfl rfl ?_
  refine JL_len sl22 rfl ?_
  refine JL_fieldAddr fo24_0 rfl ?_
  refine JL_load 1 ty22 rfl rfl rfl ?_
  refine JL_len sl22 rfl ?_
  refine JL_neq rfl rfl ?_
  refine JL_split (fun h16 => ?_) (fun h16 => ?_)
  · refine JL_done_up 54 [box _ _ [_], box _ _ [_]] [_, _, _, _] rfl rfl (by simp only [nrmF]; rfl) rfl rfl ?_
    refine JC_true rfl ?_
    refine JC_seq ?_
    refine JC_seq ?_
    refine JC_region ?_
    refine JL_fieldAddr fo24_0 rfl ?_
    refine JL_load 0 ty22 rfl rfl rfl ?_
    refine JL_len sl22 rfl ?_
    refine JL_fieldAddr fo24_0 rfl ?_
    refine JL_load 1 ty22 rfl rfl rfl ?_
    refine JL_len sl22 rfl ?_
    refine JL_lss rfl rfl ?_
    refine JL_split (fun h23 => ?_) (fun h23 => ?_)
    · refine JL_done_up 54 [box _ _ [_], box _ _ [_]] [_, _, _, _] rfl rfl (by simp only [nrmF]; rfl) rfl rfl ?_
      refine JC_true rfl ?_
      refine JC_seq ?_
      refine JC_region ?_
      refine JL_assign rfl ?_
      refine JL_done_up 54 [box _ _ [_], box _ _ [_]] [_, _, _, _] rfl rfl (by simp only [nrmF]; rfl) rfl rfl ?_
      refine JC_ret ?_
      refine JE_then_ret ?_
      refine JE_then_ret ?_
      refine JE_ret (vs := [_]) [] Tryd.results71 ⟨rfl, rfl⟩ ?_ ?_
      · exact ⟨by rw [cmpN_lt (length_limbsOf_lt (by omega))]; rfl, rfl⟩
      · exact all_nil
    · refine JL_done_up 54 [box _ _ [_], box _ _ [_]] [_, _, _, _] rfl rfl (by simp only [nrmF]; rfl) rfl rfl ?_
      refine JC_false rfl ?_
      refine JC_skip ?_
      refine JE_then ?_
      refine JC_seq ?_
      refine JC_region ?_
      refine JL_assign rfl ?_
      refine JL_done_up 54 [box _ _ [_], box _ _ [_]] [_, _, _, _] rfl rfl (by simp only [nrmF]; rfl) rfl rfl ?_
      refine JC_ret ?_
      refine JE_then_ret ?_
      refine JE_ret (vs := [_]) [] Tryd.results71 ⟨rfl, rfl⟩ ?_ ?_
      · exact ⟨by rw [cmpN_gt (length_limbsOf_lt (by omega))]; rfl, rfl⟩
      · exact all_nil
  · have hlen : (limbsOf x1).length = (limbsOf x2).length := by omega
    refine JL_done_up 54 [box _ _ [_], box _ _ [_]] [_, _, _, _] rfl rfl (by simp only [nrmF]; rfl) rfl rfl ?_
    refine JC_false rfl ?_
    refine JC_skip ?_
    refine JE_then ?_
    refine JC_seq ?_
    refine JC_seq ?_
    refine JC_region ?_
    refine JL_fieldAddr fo24_0 rfl ?_
    refine JL_load 0 ty22 rfl rfl rfl ?_
    refine JL_len sl22 rfl ?_
    refine JL_sub_to rfl rfl (IntWalk.i64_in _ (by omega)) ?_
    refine JL_assign rfl ?_
    refine JL_done_up 54 [box _ _ [_], box _ _ [_]] [_, _, _, _] rfl rfl (by simp only [nrmF]; rfl) rfl rfl ?_
    refine JC_block ?_
    refine JC_loopS ((Nat)) (fun (k : Nat) => k ≤ (limbsOf x1).length ∧ (limbsOf x1).drop k = (limbsOf x2).drop k) (fun (k : Nat) => k) (fun u (k : Nat) => [none, none, none, none, some (u 4), some (.int .i64 ((k : Nat) - 1)), none, none, none, none, none, none, none, none, none, none, none, none, none, none, none, none, none, none, none, none, none, none, some (u 28), some (u 29), some (u 30), some (u 31), some (u 32), some (u 33), some (u 34), some (u 35), some (u 36), some (u 37), some (u 38), some (u 39), some (u 40), some (u 41), some (u 42), some (u 43), some (u 44), some (u 45), some (u 46), some (u 47), some (u 48), some (u 49), some (u 50), some (u 51), some (u 52), some (u 53)]) (fun (k : Nat) => [none, none]) (fun (k : Nat) => []) ((limbsOf x1).length) (by kernel_rfl) ?_ (by kernel_rfl) ?_ ?_
    · exact ⟨Nat.le_refl _, by rw [List.drop_length, List.drop_of_length_le (by omega)]⟩
    · exact subset_nil
    intro u k hC
    obtain ⟨hk, hd⟩ := hC
    refine JC_norm ⟨54, [], [_, _, _, _, _, _, _, _, _, _, _, _, _, _, _, _, _, _, _, _, _, _, _, _, _, _, _, _, _, _, _, _, _, _, _, _, _, _, _, _, _, _, _, _, _, _, _, _, _, _, _, _, _, _]⟩ [box _ _ [_], box _ _ [_]] [_, _, _, _] rfl rfl rfl ?_
    refine JC_seq ?_
    refine JC_seq ?_
    refine JC_region ?_
    refine JL_move rfl ?_
    refine JL_geq rfl rfl ?_
    refine JL_split (fun h29 => ?_) (fun h29 => ?_)
    · refine JL_done_up 54 [box _ _ [_], box _ _ [_]] [_, _, _, _] rfl rfl (by simp only [nrmF]; rfl) rfl rfl ?_
      refine JC_true rfl ?_
      refine JC_skip ?_
      refine JE_then ?_
      refine JC_seq ?_
      refine JC_block ?_
      refine JC_seq ?_
      refine JC_seq ?_
      refine JC_drawT mixed 10 [spV 32 [] _, spV 33 [0] _, spV 34 [] _, spV 35 [1, 2] _, spV 36 [3] _, spV 37 [] _, spV 38 [5] _, spV 39 [] _, spV 40 [6, 7] _, spV 41 [8] _] ⟨OblS_V (fun vals ex ψ => (by
          refine JL_normQ ⟨54, [(32, _), (33, _), (34, _), (35, _), (36, _), (37, _), (38, _), (39, _), (40, _), (41, _)], _⟩ (_ :: _ :: _ :: _ :: ψ) rfl rfl ?_
          refine JL_fieldAddr fo24_0 rfl ?_
          exact JL_nil (JE_stepV rfl ss0))), OblS_V (fun vals ex ψ => (by
          refine JL_normQ ⟨54, [(32, _), (33, _), (34, _), (35, _), (36, _), (37, _), (38, _), (39, _), (40, _), (41, _)], _⟩ (_ :: _ :: _ :: _ :: ψ) rfl rfl ?_
          refine JL_load 0 ty22 rfl rfl rfl ?_
          exact JL_nil (JE_stepV rfl ss0))), OblS_V (fun vals ex ψ => (by
          refine JL_normQ ⟨54, [(32, _), (33, _), (34, _), (35, _), (36, _), (37, _), (38, _), (39, _), (40, _), (41, _)], _⟩ (_ :: _ :: _ :: _ :: ψ) rfl rfl ?_
          refine JL_move rfl ?_
          exact JL_nil (JE_stepV rfl ss0))), OblS_V (fun vals ex ψ => (by
          refine JL_normQ ⟨54, [(32, _), (33, _), (34, _), (35, _), (36, _), (37, _), (38, _), (39, _), (40, _), (41, _)], _⟩ (_ :: _ :: _ :: _ :: ψ) rfl rfl ?_
          refine JL_idx (k - 1) sl22 rfl rfl (by omega) (by omega) (Reads.view (List.mem_cons_of_mem _ List.mem_cons_self)) (by first | (rw [u32s_length]; omega) | (rw [i64s_length]; omega)) ?_
          exact JL_nil (JE_stepV rfl ss0))), OblS_V (fun vals ex ψ => (by
          refine JL_normQ ⟨54, [(32, _), (33, _), (34, _), (35, _), (36, _), (37, _), (38, _), (39, _), (40, _), (41, _)], _⟩ (_ :: _ :: _ :: _ :: ψ) rfl rfl ?_
          refine JL_loadE ty87 rfl (Reads.view (List.mem_cons_of_mem _ List.mem_cons_self)) (u32s_get (by omega)) ?_
          exact JL_nil (JE_stepV rfl ss0))), OblS_V (fun vals ex ψ => (by
          refine JL_normQ ⟨54, [(32, _), (33, _), (34, _), (35, _), (36, _), (37, _), (38, _), (39, _), (40, _), (41, _)], _⟩ (_ :: _ :: _ :: _ :: ψ) rfl rfl ?_
          refine JL_fieldAddr fo24_0 rfl ?_
          exact JL_nil (JE_stepV rfl ss0))), OblS_V (fun vals ex ψ => (by
          refine JL_normQ ⟨54, [(32, _), (33, _), (34, _), (35, _), (36, _), (37, _), (38, _), (39, _), (40, _), (41, _)], _⟩ (_ :: _ :: _ :: _ :: ψ) rfl rfl ?_
          refine JL_load 1 ty22 rfl rfl rfl ?_
          exact JL_nil (JE_stepV rfl ss0))), OblS_V (fun vals ex ψ => (by
          refine JL_normQ ⟨54, [(32, _), (33, _), (34, _), (35, _), (36, _), (37, _), (38, _), (39, _), (40, _), (41, _)], _⟩ (_ :: _ :: _ :: _ :: ψ) rfl rfl ?_
          refine JL_move rfl ?_
          exact JL_nil (JE_stepV rfl ss0))), OblS_V (fun vals ex ψ => (by
          refine JL_normQ ⟨54, [(32, _), (33, _), (34, _), (35, _), (36, _), (37, _), (38, _), (39, _), (40, _), (41, _)], _⟩ (_ :: _ :: _ :: _ :: ψ) rfl rfl ?_
          refine JL_idx (k - 1) sl22 rfl rfl (by omega) (by omega) (Reads.view List.mem_cons_self) (by first | (rw [u32s_length]; omega) | (rw [i64s_length]; omega)) ?_
          exact JL_nil (JE_stepV rfl ss0))), OblS_V (fun vals ex ψ => (by
          refine JL_normQ ⟨54, [(32, _), (33, _), (34, _), (35, _), (36, _), (37, _), (38, _), (39, _), (40, _), (41, _)], _⟩ (_ :: _ :: _ :: _ :: ψ) rfl rfl ?_
          refine JL_loadE ty87 rfl (Reads.view List.mem_cons_self) (u32s_get (by omega)) ?_
          exact JL_nil (JE_stepV rfl ss0))), trivial⟩ (by kernel_rfl) (fun vals bs => ?_)
      refine JL_normL [_] ⟨54, [(32, _), (33, _), (34, _), (35, _), (36, _), (37, _), (38, _), (39, _), (40, _), (41, _)], _⟩ [box _ _ [_], box _ _ [_]] [_, _, _, _] rfl rfl rfl rfl ?_
      refine JL_lss rfl rfl ?_
      refine JL_split (fun h42 => ?_) (fun h42 => ?_)
      · refine JL_done_up 54 [box _ _ [_], box _ _ [_]] [_, _, _, _] rfl rfl (by simp only [nrmF]; rfl) rfl rfl ?_
        refine JC_true rfl ?_
        refine JC_seq ?_
        refine JC_region ?_
        refine JL_assign rfl ?_
        refine JL_done_up 54 [box _ _ [_], box _ _ [_]] [_, _, _, _] rfl rfl (by simp only [nrmF]; rfl) rfl rfl ?_
        refine JC_ret ?_
        refine JE_then_ret ?_
        refine JE_block_ret ?_
        refine JE_then_ret ?_
        refine JE_nextS_ret ?_
        refine JE_block_ret ?_
        refine JE_then_ret ?_
        refine JE_ret (vs := [_]) [] Tryd.results71 ⟨rfl, rfl⟩ ?_ ?_
        · exact ⟨by rw [cmpN_lt (cmp_top hlen (k - 1) (by omega) (by rw [Nat.sub_add_cancel (by omega)]; exact hd) (by omega))]; rfl, rfl⟩
        · exact all_nil
      · refine JL_done_up 54 [box _ _ [_], box _ _ [_]] [_, _, _, _] rfl rfl (by simp only [nrmF]; rfl) rfl rfl ?_
        refine JC_false rfl ?_
        refine JC_skip ?_
        refine JE_then ?_
        refine JC_seq ?_
        refine JC_drawT mixed 10 [spV 43 [] _, spV 44 [0] _, spV 45 [] _, spV 46 [1, 2] _, spV 47 [3] _, spV 48 [] _, spV 49 [5] _, spV 50 [] _, spV 51 [6, 7] _, spV 52 [8] _] ⟨OblS_V (fun vals ex ψ => (by
            refine JL_normQ ⟨54, [(43, _), (44, _), (45, _), (46, _), (47, _), (48, _), (49, _), (50, _), (51, _), (52, _)], _⟩ (_ :: _ :: _ :: _ :: ψ) rfl rfl ?_
            refine JL_fieldAddr fo24_0 rfl ?_
            exact JL_nil (JE_stepV rfl ss0))), OblS_V (fun vals ex ψ => (by
            refine JL_normQ ⟨54, [(43, _), (44, _), (45, _), (46, _), (47, _), (48, _), (49, _), (50, _), (51, _), (52, _)], _⟩ (_ :: _ :: _ :: _ :: ψ) rfl rfl ?_
            refine JL_load 0 ty22 rfl rfl rfl ?_
            exact JL_nil (JE_stepV rfl ss0))), OblS_V (fun vals ex ψ => (by
            refine JL_normQ ⟨54, [(43, _), (44, _), (45, _), (46, _), (47, _), (48, _), (49, _), (50, _), (51, _), (52, _)], _⟩ (_ :: _ :: _ :: _ :: ψ) rfl rfl ?_
            refine JL_move rfl ?_
            exact JL_nil (JE_stepV rfl ss0))), OblS_V (fun vals ex ψ => (by
            refine JL_normQ ⟨54, [(43, _), (44, _), (45, _), (46, _), (47, _), (48, _), (49, _), (50, _), (51, _), (52, _)], _⟩ (_ :: _ :: _ :: _ :: ψ) rfl rfl ?_
            refine JL_idx (k - 1) sl22 rfl rfl (by omega) (by omega) (Reads.view (List.mem_cons_of_mem _ List.mem_cons_self)) (by first | (rw [u32s_length]; omega) | (rw [i64s_length]; omega)) ?_
            exact JL_nil (JE_stepV rfl ss0))), OblS_V (fun vals ex ψ => (by
            refine JL_normQ ⟨54, [(43, _), (44, _), (45, _), (46, _), (47, _), (48, _), (49, _), (50, _), (51, _), (52, _)], _⟩ (_ :: _ :: _ :: _ :: ψ) rfl rfl ?_
            refine JL_loadE ty87 rfl (Reads.view (List.mem_cons_of_mem _ List.mem_cons_self)) (u32s_get (by omega)) ?_
            exact JL_nil (JE_stepV rfl ss0))), OblS_V (fun vals ex ψ => (by
            refine JL_normQ ⟨54, [(43, _), (44, _), (45, _), (46, _), (47, _), (48, _), (49, _), (50, _), (51, _), (52, _)], _⟩ (_ :: _ :: _ :: _ :: ψ) rfl rfl ?_
            refine JL_fieldAddr fo24_0 rfl ?_
            exact JL_nil (JE_stepV rfl ss0))), OblS_V (fun vals ex ψ => (by
            refine JL_normQ ⟨54, [(43, _), (44, _), (45, _), (46, _), (47, _), (48, _), (49, _), (50, _), (51, _), (52, _)], _⟩ (_ :: _ :: _ :: _ :: ψ) rfl rfl ?_
            refine JL_load 1 ty22 rfl rfl rfl ?_
            exact JL_nil (JE_stepV rfl ss0))), OblS_V (fun vals ex ψ => (by
            refine JL_normQ ⟨54, [(43, _), (44, _), (45, _), (46, _), (47, _), (48, _), (49, _), (50, _), (51, _), (52, _)], _⟩ (_ :: _ :: _ :: _ :: ψ) rfl rfl ?_
            refine JL_move rfl ?_
            exact JL_nil (JE_stepV rfl ss0))), OblS_V (fun vals ex ψ => (by
            refine JL_normQ ⟨54, [(43, _), (44, _), (45, _), (46, _), (47, _), (48, _), (49, _), (50, _), (51, _), (52, _)], _⟩ (_ :: _ :: _ :: _ :: ψ) rfl rfl ?_
            refine JL_idx (k - 1) sl22 rfl rfl (by omega) (by omega) (Reads.view List.mem_cons_self) (by first | (rw [u32s_length]; omega) | (rw [i64s_length]; omega)) ?_
            exact JL_nil (JE_stepV rfl ss0))), OblS_V (fun vals ex ψ => (by
            refine JL_normQ ⟨54, [(43, _), (44, _), (45, _), (46, _), (47, _), (48, _), (49, _), (50, _), (51, _), (52, _)], _⟩ (_ :: _ :: _ :: _ :: ψ) rfl rfl ?_
            refine JL_loadE ty87 rfl (Reads.view List.mem_cons_self) (u32s_get (by omega)) ?_
            exact JL_nil (JE_stepV rfl ss0))), trivial⟩ (by kernel_rfl) (fun vals bs => ?_)
        refine JL_normL [_] ⟨54, [(43, _), (44, _), (45, _), (46, _), (47, _), (48, _), (49, _), (50, _), (51, _), (52, _)], _⟩ [box _ _ [_], box _ _ [_]] [_, _, _, _] rfl rfl rfl rfl ?_
        refine JL_gtr rfl rfl ?_
        refine JL_split (fun h53 => ?_) (fun h53 => ?_)
        · refine JL_done_up 54 [box _ _ [_], box _ _ [_]] [_, _, _, _] rfl rfl (by simp only [nrmF]; rfl) rfl rfl ?_
          refine JC_true rfl ?_
          refine JC_seq ?_
          refine JC_region ?_
          refine JL_assign rfl ?_
          refine JL_done_up 54 [box _ _ [_], box _ _ [_]] [_, _, _, _] rfl rfl (by simp only [nrmF]; rfl) rfl rfl ?_
          refine JC_ret ?_
          refine JE_block_ret ?_
          refine JE_then_ret ?_
          refine JE_nextS_ret ?_
          refine JE_block_ret ?_
          refine JE_then_ret ?_
          refine JE_ret (vs := [_]) [] Tryd.results71 ⟨rfl, rfl⟩ ?_ ?_
          · exact ⟨by rw [cmpN_gt (cmp_top hlen.symm (k - 1) (by omega) (by rw [Nat.sub_add_cancel (by omega)]; exact hd.symm) (by omega))]; rfl, rfl⟩
          · exact all_nil
        · refine JL_done_up 54 [box _ _ [_], box _ _ [_]] [_, _, _, _] rfl rfl (by simp only [nrmF]; rfl) rfl rfl ?_
          refine JC_false rfl ?_
          refine JC_skip ?_
          refine JE_block_normal ?_
          refine JE_then ?_
          refine JC_region ?_
          refine JL_move rfl ?_
          refine JL_sub_to rfl rfl (IntWalk.i64_in _ (by omega)) ?_
          rw [show ((k : Int) - 1 - 1 : Int) = ((k - 1 : Nat) : Int) - 1 from by omega]
          refine JL_assign rfl ?_
          refine JL_nil_up 54 [box _ _ [_], box _ _ [_]] [_, _, _, _] rfl rfl (by simp only [nrmF]; rfl) rfl rfl ?_
          refine JE_nextS (k - 1) (by kernel_rfl) ?_ ?_ (by kernel_rfl) ?_
          · exact ⟨by omega, cmp_drop hlen (k - 1) (by omega) (by rw [Nat.sub_add_cancel (by omega)]; exact hd) (by omega)⟩
          · first | omega | (dsimp only; omega)
          · exact subset_app subset_nil ss0
    · refine JL_done_up 54 [box _ _ [_], box _ _ [_]] [_, _, _, _] rfl rfl (by simp only [nrmF]; rfl) rfl rfl ?_
      refine JC_false rfl ?_
      refine JC_exit ?_
      refine JE_then_exit ?_
      refine JE_nextS_exit ?_
      refine JE_block_exit ?_
      refine JE_then ?_
      refine JC_seq ?_
      refine JC_region ?_
      refine JL_assign rfl ?_
      refine JL_done_up 54 [box _ _ [_], box _ _ [_]] [_, _, _, _] rfl rfl (by simp only [nrmF]; rfl) rfl rfl ?_
      refine JC_ret ?_
      refine JE_ret (vs := [_]) [] Tryd.results71 ⟨rfl, rfl⟩ ?_ ?_
      · exact ⟨by rw [cmpN_eq (cmp_all (by rw [show (0 : Nat) = k from by omega]; exact hd))]; rfl, rfl⟩
      · exact all_nil

theorem radd_con (ad1 : Option Addr) (n1 c1 : Nat) (L1 : List Nat) (x1 : Nat) (g1 : NIn n1 L1 x1 200000000) (ad2 : Option Addr) (n2 c2 : Nat) (L2 : List Nat) (x2 : Nat) (g2 : NIn n2 L2 x2 200000000) (z : Nat) (hz : x1 + x2 = z) :
    ConF Tryd.prog 70 [.agg #[.slice ad1 n1 c1], .agg #[.slice ad2 n2 c2]] [vCells ad1 (u32s L1), vCells ad2 (u32s L2)]
      (LN z) := by
  subst hz
  have hs1 := g1.sz
  have hl1 := g1.le
  have hs2 := g2.sz
  have hl2 := g2.le
  refine ConF_of Tryd.func70 rfl 57 _ rfl rfl ?_
  intro w0
  refine JC_norm ⟨57, [], [_, _, _, _, _, _, _, _, _, _, _, _, _, _, _, _, _, _, _, _, _, _, _, _, _, _, _, _, _, _, _, _, _, _, _, _, _, _, _, _, _, _, _, _, _, _, _, _, _, _, _, _, _, _, _, _, _]⟩ [] [_, _] rfl rfl rfl ?_
  refine JC_seq ?_
  refine JC_region ?_
  refine JL_box rfl rfl (fun b2 => ?_)
  refine JL_box rfl rfl (fun b3 => ?_)
  refine JL_alloc z24 (fun b4 => ?_)
  refine JL_done_up 57 [box _ _ [_], box _ _ [_], box _ _ [_]] [_, _] rfl rfl (by simp only [nrmF]; rfl) rfl rfl ?_
  refine JC_seq ?_
  refine JC_region ?_
  refine JL_loadA (vs := [_]) 0 ty24 rfl rfl ⟨rfl, trivial⟩ ?_
  refine JL_callF' (Asks.cons (holds_of_mem (by repeat (first | with_reducible exact mm0 | refine mmS ?_))) Asks.nil) (rnorm_con _ _ _ _ _ (g1.mono (by omega))) rfl ca94 ⟨rfl, rfl⟩ ?_
  rintro _ _ ⟨ad9, cap9, rfl, hk9, hm9, rfl⟩
  refine JL_store (vs := [_]) 0 ty24 rfl rfl rfl (AllOne.cons rfl AllOne.nil) rfl (Nat.le_of_ble_eq_true rfl) ?_
  refine JL_done_up 57 [box _ _ [_], box _ _ [_], box _ _ [_]] [_, _, _] rfl rfl (by simp only [nrmF]; rfl) rfl rfl ?_
  refine JC_seq ?_
  refine JC_region ?_
  refine JL_loadA (vs := [_]) 1 ty24 rfl rfl ⟨rfl, trivial⟩ ?_
  refine JL_callF' (Asks.cons (holds_of_mem (by repeat (first | with_reducible exact mm0 | refine mmS ?_))) Asks.nil) (rnorm_con _ _ _ _ _ (g2.mono (by omega))) rfl ca94 ⟨rfl, rfl⟩ ?_
  rintro _ _ ⟨ad11, cap11, rfl, hk11, hm11, rfl⟩
  refine JL_store (vs := [_]) 1 ty24 rfl rfl rfl (AllOne.cons rfl AllOne.nil) rfl (Nat.le_of_ble_eq_true rfl) ?_
  refine JL_done_up 57 [box _ _ [_], box _ _ [_], box _ _ [_]] [_, _, _, _] rfl rfl (by simp only [nrmF]; rfl) rfl rfl ?_
  refine JC_seq ?_
  refine JC_region ?_
  refine JL_assign rfl ?_
  refine JL_done_up 57 [box _ _ [_], box _ _ [_], box _ _ [_]] [_, _, _, _] rfl rfl (by simp only [nrmF]; rfl) rfl rfl ?_
  refine JC_seq ?_
  refine JC_seq ?_
  refine JC_region ?_
  refine JL_assign rfl ?_
  refine JL_done_up 57 [box _ _ [_], box _ _ [_], box _ _ [_]] [_, _, _, _] rfl rfl (by simp only [nrmF]; rfl) rfl rfl ?_
  refine JC_block ?_
  refine JC_addNil 87 1 ?_
  refine JC_norm ⟨57, [], [_, _, _, _, _, _, _, _, _, _, _, _, _, _, _, _, _, _, _, _, _, _, _, _, _, _, _, _, _, _, _, _, _, _, _, _, _, _, _, _, _, _, _, _, _, _, _, _, _, _, _, _, _, _, _, _, _]⟩ [box _ _ [_], box _ _ [_], box _ _ [_], osl _ _ _ _ _ _] [_, _, _, _] rfl rfl rfl ?_
  refine JC_loopS ((Nat) × (List Nat) × (Option Addr) × (Nat)) (fun (k, out, ad, cap) => k ≤ max (limbsOf x1).length (limbsOf x2).length ∧ out.length = k ∧ U32 out ∧ val out = val ((limbsOf x1).take k) + val ((limbsOf x2).take k) ∧ k ≤ cap ∧ cap ≤ 9223372036854775807) (fun (k, out, ad, cap) => max (limbsOf x1).length (limbsOf x2).length - k) (fun u (k, out, ad, cap) => [none, none, none, none, none, some (.slice ad k cap), some (.int .i64 (k : Nat)), some (u 7), none, none, none, none, some (u 12), some (u 13), some (u 14), some (u 15), some (u 16), some (u 17), some (u 18), some (u 19), some (u 20), some (u 21), some (u 22), some (u 23), some (u 24), some (u 25), some (u 26), some (u 27), some (u 28), some (u 29), some (u 30), some (u 31), some (u 32), some (u 33), some (u 34), some (u 35), some (u 36), some (u 37), some (u 38), some (u 39), some (u 40), some (u 41), some (u 42), some (u 43), some (u 44), some (u 45), some (u 46), some (u 47), some (u 48), some (u 49), some (u 50), some (u 51), some (u 52), some (u 53), none, none, none]) (fun (k, out, ad, cap) => [none, none, none, some (osl ad k cap 87 1 (u32s out))]) (fun (k, out, ad, cap) => []) (0, [], none, 0) (by kernel_rfl) ?_ (by kernel_rfl) ?_ ?_
  · exact ⟨Nat.zero_le _, rfl, fun _ h => (List.not_mem_nil h).elim, by simp [val], by omega, by omega⟩
  · exact subset_nil
  intro u i hC
  obtain ⟨k, out, ad, cap⟩ := i
  obtain ⟨hk, ho, hd, hv, hcap, hm⟩ := hC
  refine JC_norm ⟨57, [], [_, _, _, _, _, _, _, _, _, _, _, _, _, _, _, _, _, _, _, _, _, _, _, _, _, _, _, _, _, _, _, _, _, _, _, _, _, _, _, _, _, _, _, _, _, _, _, _, _, _, _, _, _, _, _, _, _]⟩ [box _ _ [_], box _ _ [_], box _ _ [_], osl _ _ _ _ _ _] [_, _, _, _] rfl rfl rfl ?_
  have hX := (dig_limbsOf x1).getD k
  have hY := (dig_limbsOf x2).getD k
  refine JC_seq ?_
  refine JC_seq ?_
  refine JC_region ?_
  refine JL_move rfl ?_
  refine JL_fieldAddr fo24_0 rfl ?_
  refine JL_load 0 ty22 rfl rfl rfl ?_
  refine JL_len sl22 rfl ?_
  refine JL_lss rfl rfl ?_
  refine JL_split (fun h16 => ?_) (fun h16 => ?_)
  · refine JL_move rfl ?_
    refine JL_guard_no rfl rfl ?_
    refine JL_guard_no rfl rfl ?_
    refine JL_guard_no rfl rfl ?_
    refine JL_guard_no rfl rfl ?_
    refine JL_guard_no rfl rfl ?_
    refine JL_pick_t rfl rfl ?_
    refine JL_done_up 57 [box _ _ [_], box _ _ [_], box _ _ [_], osl _ _ _ _ _ _] [_, _, _, _] rfl rfl (by simp only [nrmF]; rfl) rfl rfl ?_
    refine JC_true rfl ?_
    refine JC_skip ?_
    refine JE_then ?_
    refine JC_seq ?_
    refine JC_block ?_
    refine JC_seq ?_
    refine JC_region ?_
    refine JL_assign rfl ?_
    refine JL_done_up 57 [box _ _ [_], box _ _ [_], box _ _ [_], osl _ _ _ _ _ _] [_, _, _, _] rfl rfl (by simp only [nrmF]; rfl) rfl rfl ?_
    refine JC_seq ?_
    refine JC_seq ?_
    refine JC_region ?_
    refine JL_move rfl ?_
    refine JL_fieldAddr fo24_0 rfl ?_
    refine JL_load 0 ty22 rfl rfl rfl ?_
    refine JL_len sl22 rfl ?_
    refine JL_lss rfl rfl ?_
    refine JL_done_up 57 [box _ _ [_], box _ _ [_], box _ _ [_], osl _ _ _ _ _ _] [_, _, _, _] rfl rfl (by simp only [nrmF]; rfl) rfl rfl ?_
    refine JC_cutT ((Nat)) (fun (t : Nat) => t = (limbsOf x1).getD k 0) (fun u (t : Nat) => [none, none, none, none, none, none, none, some (.int .u32 (t : Nat)), none, none, none, none, none, none, none, none, none, none, none, none, none, none, none, none, none, none, none, none, none, none, none, some (u 31), some (u 32), some (u 33), some (u 34), some (u 35), some (u 36), some (u 37), none, none, none, none, none, none, none, none, none, none, none, none, none, none, none, none, none, none, none]) (fun (t : Nat) => [none, none, none, none]) (fun (t : Nat) => []) ?_ ?_
    · refine JC_cond rfl (fun hb => ?_) (fun hb => ?_)
      · have h30 := of_decide_eq_true hb
        refine JC_region ?_
        refine JL_move rfl ?_
        refine JL_fieldAddr fo24_0 rfl ?_
        refine JL_load 0 ty22 rfl rfl rfl ?_
        refine JL_move rfl ?_
        refine JL_idx k sl22 rfl rfl rfl (by omega) (Reads.view (List.mem_cons_of_mem _ List.mem_cons_self)) (by first | (rw [u32s_length]; omega) | (rw [i64s_length]; omega)) ?_
        refine JL_loadE ty87 rfl (Reads.view (List.mem_cons_of_mem _ List.mem_cons_self)) (u32s_get (by omega)) ?_
        refine JL_add_to rfl rfl (IntWalk.u32_in _ (by omega)) ?_
        refine JL_assign rfl ?_
        refine JL_nil_up 57 [box _ _ [_], box _ _ [_], box _ _ [_], osl _ _ _ _ _ _] [_, _, _, _] rfl rfl (by simp only [nrmF]; rfl) rfl rfl ?_
        refine JE_midS (0 + (limbsOf x1).getD k 0) (by kernel_rfl) ?_ (by kernel_rfl) ?_
        · exact Nat.zero_add _
        · exact subset_app subset_nil ss0
      · have h30 := of_decide_eq_false hb
        refine JC_skip ?_
        refine JE_midS (0) (by kernel_rfl) ?_ (by kernel_rfl) ?_
        · show _ = _; rw [getD_of_ge (limbsOf x1) k (by omega)]
        · exact subset_app subset_nil ss0
    intro u t ht
    refine JC_norm ⟨57, [], [_, _, _, _, _, _, _, _, _, _, _, _, _, _, _, _, _, _, _, _, _, _, _, _, _, _, _, _, _, _, _, _, _, _, _, _, _, _, _, _, _, _, _, _, _, _, _, _, _, _, _, _, _, _, _, _, _]⟩ [box _ _ [_], box _ _ [_], box _ _ [_], osl _ _ _ _ _ _] [_, _, _, _] rfl rfl rfl ?_
    refine JC_seq ?_
    refine JC_seq ?_
    refine JC_region ?_
    refine JL_move rfl ?_
    refine JL_fieldAddr fo24_0 rfl ?_
    refine JL_load 1 ty22 rfl rfl rfl ?_
    refine JL_len sl22 rfl ?_
    refine JL_lss rfl rfl ?_
    refine JL_done_up 57 [box _ _ [_], box _ _ [_], box _ _ [_], osl _ _ _ _ _ _] [_, _, _, _] rfl rfl (by simp only [nrmF]; rfl) rfl rfl ?_
    refine JC_cutT ((Nat)) (fun (s : Nat) => s = (limbsOf x1).getD k 0 + (limbsOf x2).getD k 0) (fun u (s : Nat) => [none, none, none, none, none, none, none, some (.int .u32 (s : Nat)), none, none, none, none, none, none, none, none, none, none, none, none, none, none, none, none, none, none, none, none, none, none, none, none, none, none, none, none, none, none, none, none, none, none, none, some (u 43), some (u 44), some (u 45), some (u 46), some (u 47), some (u 48), some (u 49), none, none, none, none, none, none, none]) (fun (s : Nat) => [none, none, none, none]) (fun (s : Nat) => []) ?_ ?_
    · refine JC_cond rfl (fun hb => ?_) (fun hb => ?_)
      · have h42 := of_decide_eq_true hb
        refine JC_region ?_
        refine JL_move rfl ?_
        refine JL_fieldAddr fo24_0 rfl ?_
        refine JL_load 1 ty22 rfl rfl rfl ?_
        refine JL_move rfl ?_
        refine JL_idx k sl22 rfl rfl rfl (by omega) (Reads.view List.mem_cons_self) (by first | (rw [u32s_length]; omega) | (rw [i64s_length]; omega)) ?_
        refine JL_loadE ty87 rfl (Reads.view List.mem_cons_self) (u32s_get (by omega)) ?_
        refine JL_add_to rfl rfl (IntWalk.u32_in _ (by omega)) ?_
        refine JL_assign rfl ?_
        refine JL_nil_up 57 [box _ _ [_], box _ _ [_], box _ _ [_], osl _ _ _ _ _ _] [_, _, _, _] rfl rfl (by simp only [nrmF]; rfl) rfl rfl ?_
        refine JE_midS (t + (limbsOf x2).getD k 0) (by kernel_rfl) ?_ (by kernel_rfl) ?_
        · show _ = _ + _; rw [ht]
        · exact subset_app subset_nil ss0
      · have h42 := of_decide_eq_false hb
        refine JC_skip ?_
        refine JE_midS (t) (by kernel_rfl) ?_ (by kernel_rfl) ?_
        · show _ = _ + _; rw [getD_of_ge (limbsOf x2) k (by omega), ht]; omega
        · exact subset_app subset_nil ss0
    intro u s hs
    refine JC_norm ⟨57, [], [_, _, _, _, _, _, _, _, _, _, _, _, _, _, _, _, _, _, _, _, _, _, _, _, _, _, _, _, _, _, _, _, _, _, _, _, _, _, _, _, _, _, _, _, _, _, _, _, _, _, _, _, _, _, _, _, _]⟩ [box _ _ [_], box _ _ [_], box _ _ [_], osl _ _ _ _ _ _] [_, _, _, _] rfl rfl rfl ?_
    refine JC_region ?_
    refine JL_move rfl ?_
    refine JL_move rfl ?_
    refine JL_build1 sl22 rfl rfl (fun g52 => ?_)
    refine JL_appendU (L := _) 3 4 s sl22 rfl rfl rfl rfl (by omega) (by omega) (by omega) (fun ad53 cap53 hc53 => ?_)
    refine JL_dropAt 4 ?_
    refine JL_norm _ [box _ _ [_], box _ _ [_], box _ _ [_], osl _ _ _ _ _ _] [_, _, _, _] rfl rfl rfl ?_
    refine JL_assign rfl ?_
    refine JL_nil_up 57 [box _ _ [_], box _ _ [_], box _ _ [_], osl _ _ _ _ _ _] [_, _, _, _] rfl rfl (by simp only [nrmF]; rfl) rfl rfl ?_
    refine JE_block_normal ?_
    refine JE_then ?_
    refine JC_region ?_
    refine JL_move rfl ?_
    refine JL_add_to rfl rfl (IntWalk.i64_in _ (by omega)) ?_
    refine JL_assign rfl ?_
    refine JL_nil_up 57 [box _ _ [_], box _ _ [_], box _ _ [_], osl _ _ _ _ _ _] [_, _, _, _] rfl rfl (by simp only [nrmF]; rfl) rfl rfl ?_
    refine JE_nextS (k + 1, out ++ [s], ad53, cap53) (by kernel_rfl) ?_ ?_ (by kernel_rfl) ?_
    · exact ⟨by omega, by rw [len_snoc]; omega, U32.snoc hd (by omega), by rw [val_snoc, ho, hv, val_take_succ', val_take_succ', hs, Nat.mul_add]; omega, by omega, by omega⟩
    · first | omega | (dsimp only; omega)
    · exact subset_app subset_nil ss0
  · refine JL_move rfl ?_
    refine JL_guard_yes rfl rfl ?_
    refine JL_move rfl ?_
    refine JL_guard_yes rfl rfl ?_
    refine JL_fieldAddr fo24_0 rfl ?_
    refine JL_guard_yes rfl rfl ?_
    refine JL_load 1 ty22 rfl rfl rfl ?_
    refine JL_guard_yes rfl rfl ?_
    refine JL_len sl22 rfl ?_
    refine JL_guard_yes rfl rfl ?_
    refine JL_lss rfl rfl ?_
    refine JL_split (fun h22 => ?_) (fun h22 => ?_)
    · refine JL_pick_f rfl rfl ?_
      refine JL_done_up 57 [box _ _ [_], box _ _ [_], box _ _ [_], osl _ _ _ _ _ _] [_, _, _, _] rfl rfl (by simp only [nrmF]; rfl) rfl rfl ?_
      refine JC_true rfl ?_
      refine JC_skip ?_
      refine JE_then ?_
      refine JC_seq ?_
      refine JC_block ?_
      refine JC_seq ?_
      refine JC_region ?_
      refine JL_assign rfl ?_
      refine JL_done_up 57 [box _ _ [_], box _ _ [_], box _ _ [_], osl _ _ _ _ _ _] [_, _, _, _] rfl rfl (by simp only [nrmF]; rfl) rfl rfl ?_
      refine JC_seq ?_
      refine JC_seq ?_
      refine JC_region ?_
      refine JL_move rfl ?_
      refine JL_fieldAddr fo24_0 rfl ?_
      refine JL_load 0 ty22 rfl rfl rfl ?_
      refine JL_len sl22 rfl ?_
      refine JL_lss rfl rfl ?_
      refine JL_done_up 57 [box _ _ [_], box _ _ [_], box _ _ [_], osl _ _ _ _ _ _] [_, _, _, _] rfl rfl (by simp only [nrmF]; rfl) rfl rfl ?_
      refine JC_cutT ((Nat)) (fun (t : Nat) => t = (limbsOf x1).getD k 0) (fun u (t : Nat) => [none, none, none, none, none, none, none, some (.int .u32 (t : Nat)), none, none, none, none, none, none, none, none, none, none, none, none, none, none, none, none, none, none, none, none, none, none, none, some (u 31), some (u 32), some (u 33), some (u 34), some (u 35), some (u 36), some (u 37), none, none, none, none, none, none, none, none, none, none, none, none, none, none, none, none, none, none, none]) (fun (t : Nat) => [none, none, none, none]) (fun (t : Nat) => []) ?_ ?_
      · refine JC_cond rfl (fun hb => ?_) (fun hb => ?_)
        · have h30 := of_decide_eq_true hb
          refine JC_region ?_
          refine JL_move rfl ?_
          refine JL_fieldAddr fo24_0 rfl ?_
          refine JL_load 0 ty22 rfl rfl rfl ?_
          refine JL_move rfl ?_
          refine JL_idx k sl22 rfl rfl rfl (by omega) (Reads.view (List.mem_cons_of_mem _ List.mem_cons_self)) (by first | (rw [u32s_length]; omega) | (rw [i64s_length]; omega)) ?_
          refine JL_loadE ty87 rfl (Reads.view (List.mem_cons_of_mem _ List.mem_cons_self)) (u32s_get (by omega)) ?_
          refine JL_add_to rfl rfl (IntWalk.u32_in _ (by omega)) ?_
          refine JL_assign rfl ?_
          refine JL_nil_up 57 [box _ _ [_], box _ _ [_], box _ _ [_], osl _ _ _ _ _ _] [_, _, _, _] rfl rfl (by simp only [nrmF]; rfl) rfl rfl ?_
          refine JE_midS (0 + (limbsOf x1).getD k 0) (by kernel_rfl) ?_ (by kernel_rfl) ?_
          · exact Nat.zero_add _
          · exact subset_app subset_nil ss0
        · have h30 := of_decide_eq_false hb
          refine JC_skip ?_
          refine JE_midS (0) (by kernel_rfl) ?_ (by kernel_rfl) ?_
          · show _ = _; rw [getD_of_ge (limbsOf x1) k (by omega)]
          · exact subset_app subset_nil ss0
      intro u t ht
      refine JC_norm ⟨57, [], [_, _, _, _, _, _, _, _, _, _, _, _, _, _, _, _, _, _, _, _, _, _, _, _, _, _, _, _, _, _, _, _, _, _, _, _, _, _, _, _, _, _, _, _, _, _, _, _, _, _, _, _, _, _, _, _, _]⟩ [box _ _ [_], box _ _ [_], box _ _ [_], osl _ _ _ _ _ _] [_, _, _, _] rfl rfl rfl ?_
      refine JC_seq ?_
      refine JC_seq ?_
      refine JC_region ?_
      refine JL_move rfl ?_
      refine JL_fieldAddr fo24_0 rfl ?_
      refine JL_load 1 ty22 rfl rfl rfl ?_
      refine JL_len sl22 rfl ?_
      refine JL_lss rfl rfl ?_
      refine JL_done_up 57 [box _ _ [_], box _ _ [_], box _ _ [_], osl _ _ _ _ _ _] [_, _, _, _] rfl rfl (by simp only [nrmF]; rfl) rfl rfl ?_
      refine JC_cutT ((Nat)) (fun (s : Nat) => s = (limbsOf x1).getD k 0 + (limbsOf x2).getD k 0) (fun u (s : Nat) => [none, none, none, none, none, none, none, some (.int .u32 (s : Nat)), none, none, none, none, none, none, none, none, none, none, none, none, none, none, none, none, none, none, none, none, none, none, none, none, none, none, none, none, none, none, none, none, none, none, none, some (u 43), some (u 44), some (u 45), some (u 46), some (u 47), some (u 48), some (u 49), none, none, none, none, none, none, none]) (fun (s : Nat) => [none, none, none, none]) (fun (s : Nat) => []) ?_ ?_
      · refine JC_cond rfl (fun hb => ?_) (fun hb => ?_)
        · have h42 := of_decide_eq_true hb
          refine JC_region ?_
          refine JL_move rfl ?_
          refine JL_fieldAddr fo24_0 rfl ?_
          refine JL_load 1 ty22 rfl rfl rfl ?_
          refine JL_move rfl ?_
          refine JL_idx k sl22 rfl rfl rfl (by omega) (Reads.view List.mem_cons_self) (by first | (rw [u32s_length]; omega) | (rw [i64s_length]; omega)) ?_
          refine JL_loadE ty87 rfl (Reads.view List.mem_cons_self) (u32s_get (by omega)) ?_
          refine JL_add_to rfl rfl (IntWalk.u32_in _ (by omega)) ?_
          refine JL_assign rfl ?_
          refine JL_nil_up 57 [box _ _ [_], box _ _ [_], box _ _ [_], osl _ _ _ _ _ _] [_, _, _, _] rfl rfl (by simp only [nrmF]; rfl) rfl rfl ?_
          refine JE_midS (t + (limbsOf x2).getD k 0) (by kernel_rfl) ?_ (by kernel_rfl) ?_
          · show _ = _ + _; rw [ht]
          · exact subset_app subset_nil ss0
        · have h42 := of_decide_eq_false hb
          refine JC_skip ?_
          refine JE_midS (t) (by kernel_rfl) ?_ (by kernel_rfl) ?_
          · show _ = _ + _; rw [getD_of_ge (limbsOf x2) k (by omega), ht]; omega
          · exact subset_app subset_nil ss0
      intro u s hs
      refine JC_norm ⟨57, [], [_, _, _, _, _, _, _, _, _, _, _, _, _, _, _, _, _, _, _, _, _, _, _, _, _, _, _, _, _, _, _, _, _, _, _, _, _, _, _, _, _, _, _, _, _, _, _, _, _, _, _, _, _, _, _, _, _]⟩ [box _ _ [_], box _ _ [_], box _ _ [_], osl _ _ _ _ _ _] [_, _, _, _] rfl rfl rfl ?_
      refine JC_region ?_
      refine JL_move rfl ?_
      refine JL_move rfl ?_
      refine JL_build1 sl22 rfl rfl (fun g52 => ?_)
      refine JL_appendU (L := _) 3 4 s sl22 rfl rfl rfl rfl (by omega) (by omega) (by omega) (fun ad53 cap53 hc53 => ?_)
      refine JL_dropAt 4 ?_
      refine JL_norm _ [box _ _ [_], box _ _ [_], box _ _ [_], osl _ _ _ _ _ _] [_, _, _, _] rfl rfl rfl ?_
      refine JL_assign rfl ?_
      refine JL_nil_up 57 [box _ _ [_], box _ _ [_], box _ _ [_], osl _ _ _ _ _ _] [_, _, _, _] rfl rfl (by simp only [nrmF]; rfl) rfl rfl ?_
      refine JE_block_normal ?_
      refine JE_then ?_
      refine JC_region ?_
      refine JL_move rfl ?_
      refine JL_add_to rfl rfl (IntWalk.i64_in _ (by omega)) ?_
      refine JL_assign rfl ?_
      refine JL_nil_up 57 [box _ _ [_], box _ _ [_], box _ _ [_], osl _ _ _ _ _ _] [_, _, _, _] rfl rfl (by simp only [nrmF]; rfl) rfl rfl ?_
      refine JE_nextS (k + 1, out ++ [s], ad53, cap53) (by kernel_rfl) ?_ ?_ (by kernel_rfl) ?_
      · exact ⟨by omega, by rw [len_snoc]; omega, U32.snoc hd (by omega), by rw [val_snoc, ho, hv, val_take_succ', val_take_succ', hs, Nat.mul_add]; omega, by omega, by omega⟩
      · first | omega | (dsimp only; omega)
      · exact subset_app subset_nil ss0
    · refine JL_pick_f rfl rfl ?_
      refine JL_done_up 57 [box _ _ [_], box _ _ [_], box _ _ [_], osl _ _ _ _ _ _] [_, _, _, _] rfl rfl (by simp only [nrmF]; rfl) rfl rfl ?_
      refine JC_false rfl ?_
      refine JC_exit ?_
      refine JE_then_exit ?_
      refine JE_nextS_exit ?_
      refine JE_block_exit ?_
      refine JE_then ?_
      refine JC_seq ?_
      refine JC_region ?_
      refine JL_move rfl ?_
      refine JL_build (cs := [_]) [(0, [_])] st24 ⟨⟨rfl, _, rfl, rfl⟩, rfl⟩ rfl ?_
      refine JL_callF' (Asks.cons (by first | exact holds_of_mem (by repeat (first | with_reducible exact mm0 | refine mmS ?_)) | (exact holds_of_own 3 rfl)) Asks.nil) (rnorm_con _ _ _ _ (x1 + x2) ⟨ho, hd, by rw [hv, List.take_of_length_le (by omega), List.take_of_length_le (by omega), val_limbsOf, val_limbsOf], by omega⟩) rfl ca94 ⟨rfl, rfl⟩ ?_
      rintro _ _ ⟨ad56, cap56, rfl, hk56, hm56, rfl⟩
      refine JL_store (vs := [_]) 2 ty24 rfl rfl rfl (AllOne.cons rfl AllOne.nil) rfl (Nat.le_of_ble_eq_true rfl) ?_
      refine JL_done_up 57 [box _ _ [_], box _ _ [_], box _ _ [_], osl _ _ _ _ _ _] [_, _, _, _, _] rfl rfl (by simp only [nrmF]; rfl) rfl rfl ?_
      refine JC_ret ?_
      refine JE_ret (vs := [_]) [vCells ad56 (u32s (limbsOf (x1 + x2)))] Tryd.results70 ⟨RV.cell (vs := [_]) 2 ty24 rfl rfl ⟨rfl, trivial⟩, rfl⟩ ?_ ?_
      · exact ⟨ad56, cap56, rfl, hk56, hm56, rfl⟩
      · exact (all_cons (by repeat (first | with_reducible exact mm0 | refine mmS ?_)) all_nil)

theorem rsub_con (ad1 : Option Addr) (n1 c1 : Nat) (L1 : List Nat) (x1 : Nat) (g1 : NIn n1 L1 x1 200000000) (ad2 : Option Addr) (n2 c2 : Nat) (L2 : List Nat) (x2 : Nat) (g2 : NIn n2 L2 x2 200000000) (z : Nat) (hz : x1 - x2 = z) :
    ConF Tryd.prog 72 [.agg #[.slice ad1 n1 c1], .agg #[.slice ad2 n2 c2]] [vCells ad1 (u32s L1), vCells ad2 (u32s L2)]
      (LNE z (if x1 < x2 then 2 else 0)) := by
  subst hz
  have hs1 := g1.sz
  have hl1 := g1.le
  have hs2 := g2.sz
  have hl2 := g2.le
  refine ConF_of Tryd.func72 rfl 59 _ rfl rfl ?_
  intro w0
  refine JC_norm ⟨59, [], [_, _, _, _, _, _, _, _, _, _, _, _, _, _, _, _, _, _, _, _, _, _, _, _, _, _, _, _, _, _, _, _, _, _, _, _, _, _, _, _, _, _, _, _, _, _, _, _, _, _, _, _, _, _, _, _, _, _, _]⟩ [] [_, _] rfl rfl rfl ?_
  refine JC_seq ?_
  refine JC_region ?_
  refine JL_box rfl rfl (fun b2 => ?_)
  refine JL_box rfl rfl (fun b3 => ?_)
  refine JL_alloc z24 (fun b4 => ?_)
  refine JL_assign rfl ?_
  refine JL_done_up 59 [box _ _ [_], box _ _ [_], box _ _ [_]] [_, _] rfl rfl (by simp only [nrmF]; rfl) rfl rfl ?_
  refine JC_seq ?_
  refine JC_seq ?_
  refine JC_region ?_
  refine JL_loadA (vs := [_]) 0 ty24 rfl rfl ⟨rfl, trivial⟩ ?_
  refine JL_loadA (vs := [_]) 1 ty24 rfl rfl ⟨rfl, trivial⟩ ?_
  refine JL_callF' (Asks.cons (holds_of_mem (by repeat (first | with_reducible exact mm0 | refine mmS ?_))) (Asks.cons (holds_of_mem (by repeat (first | with_reducible exact mm0 | refine mmS ?_))) Asks.nil)) (rcmp_con _ _ _ _ _ g1 _ _ _ _ _ g2) rfl ca71 ⟨rfl, rfl, rfl⟩ ?_
  rintro _ _ ⟨rfl, rfl⟩
  refine JL_lss rfl rfl ?_
  refine JL_split (fun h13 => ?_) (fun h13 => ?_)
  · refine JL_done_up 59 [box _ _ [_], box _ _ [_], box _ _ [_]] [_, _] rfl rfl (by simp only [nrmF]; rfl) rfl rfl ?_
    refine JC_true rfl ?_
    refine JC_seq ?_
    refine JC_region ?_
    refine JL_build (cs := [_]) [] st24 rfl rfl ?_
    refine JL_store (vs := [_]) 2 ty24 rfl rfl rfl (AllOne.cons rfl AllOne.nil) rfl (Nat.le_of_ble_eq_true rfl) ?_
    refine JL_assign rfl ?_
    refine JL_done_up 59 [box _ _ [_], box _ _ [_], box _ _ [_]] [_, _] rfl rfl (by simp only [nrmF]; rfl) rfl rfl ?_
    refine JC_ret ?_
    refine JE_then_ret ?_
    have hlt : x1 < x2 := cmpN_neg.1 h13
    have hz : x1 - x2 = 0 := by omega
    refine JE_nilView ?_
    refine JE_ret (vs := [_, _]) [vCells none (u32s [])] Tryd.results72 ⟨RV.cell (vs := [_]) 2 ty24 rfl rfl ⟨rfl, trivial⟩, rfl, rfl⟩ ?_ ?_
    · exact ⟨none, 0, by rw [hz, limbsOf_zero, if_pos hlt]; rfl, by rw [hz, limbsOf_zero]; exact Nat.le_refl _, by omega, by rw [hz, limbsOf_zero]⟩
    · exact (all_cons (by repeat (first | with_reducible exact mm0 | refine mmS ?_)) all_nil)
  · have hle : x2 ≤ x1 := by have := cmpN_neg (n := x1) (m := x2); omega
    have hlen := len_limbsOf_le hle
    refine JL_done_up 59 [box _ _ [_], box _ _ [_], box _ _ [_]] [_, _] rfl rfl (by simp only [nrmF]; rfl) rfl rfl ?_
    refine JC_false rfl ?_
    refine JC_skip ?_
    refine JE_then ?_
    refine JC_seq ?_
    refine JC_region ?_
    refine JL_loadA (vs := [_]) 0 ty24 rfl rfl ⟨rfl, trivial⟩ ?_
    refine JL_callF' (Asks.cons (holds_of_mem (by repeat (first | with_reducible exact mm0 | refine mmS ?_))) Asks.nil) (rnorm_con _ _ _ _ _ (g1.mono (by omega))) rfl ca94 ⟨rfl, rfl⟩ ?_
    rintro _ _ ⟨ad16, cap16, rfl, hk16, hm16, rfl⟩
    refine JL_store (vs := [_]) 0 ty24 rfl rfl rfl (AllOne.cons rfl AllOne.nil) rfl (Nat.le_of_ble_eq_true rfl) ?_
    refine JL_done_up 59 [box _ _ [_], box _ _ [_], box _ _ [_]] [_, _, _] rfl rfl (by simp only [nrmF]; rfl) rfl rfl ?_
    refine JC_seq ?_
    refine JC_region ?_
    refine JL_loadA (vs := [_]) 1 ty24 rfl rfl ⟨rfl, trivial⟩ ?_
    refine JL_callF' (Asks.cons (holds_of_mem (by repeat (first | with_reducible exact mm0 | refine mmS ?_))) Asks.nil) (rnorm_con _ _ _ _ _ (g2.mono (by omega))) rfl ca94 ⟨rfl, rfl⟩ ?_
    rintro _ _ ⟨ad18, cap18, rfl, hk18, hm18, rfl⟩
    refine JL_store (vs := [_]) 1 ty24 rfl rfl rfl (AllOne.cons rfl AllOne.nil) rfl (Nat.le_of_ble_eq_true rfl) ?_
    refine JL_done_up 59 [box _ _ [_], box _ _ [_], box _ _ [_]] [_, _, _, _] rfl rfl (by simp only [nrmF]; rfl) rfl rfl ?_
    refine JC_seq ?_
    refine JC_region ?_
    refine JL_assign rfl ?_
    refine JL_done_up 59 [box _ _ [_], box _ _ [_], box _ _ [_]] [_, _, _, _] rfl rfl (by simp only [nrmF]; rfl) rfl rfl ?_
    refine JC_seq ?_
    refine JC_region ?_
    refine JL_assign rfl ?_
    refine JL_done_up 59 [box _ _ [_], box _ _ [_], box _ _ [_]] [_, _, _, _] rfl rfl (by simp only [nrmF]; rfl) rfl rfl ?_
    refine JC_seq ?_
    refine JC_seq ?_
    refine JC_region ?_
    refine JL_assign rfl ?_
    refine JL_done_up 59 [box _ _ [_], box _ _ [_], box _ _ [_]] [_, _, _, _] rfl rfl (by simp only [nrmF]; rfl) rfl rfl ?_
    refine JC_block ?_
    refine JC_addNil 87 1 ?_
    refine JC_norm ⟨59, [], [_, _, _, _, _, _, _, _, _, _, _, _, _, _, _, _, _, _, _, _, _, _, _, _, _, _, _, _, _, _, _, _, _, _, _, _, _, _, _, _, _, _, _, _, _, _, _, _, _, _, _, _, _, _, _, _, _, _, _]⟩ [box _ _ [_], box _ _ [_], box _ _ [_], osl _ _ _ _ _ _] [_, _, _, _] rfl rfl rfl ?_
    refine JC_loopS ((Nat) × (List Nat) × (Nat) × (Option Addr) × (Nat)) (fun (k, out, c, ad, cap) => k ≤ (limbsOf x1).length ∧ out.length = k ∧ Dig out ∧ c ≤ 1 ∧ val ((limbsOf x1).take k) + 1000000000 ^ k * c = val ((limbsOf x2).take k) + val out ∧ k ≤ cap ∧ cap ≤ 9223372036854775807) (fun (k, out, c, ad, cap) => (limbsOf x1).length - k) (fun u (k, out, c, ad, cap) => [none, none, none, none, none, none, some (.slice ad k cap), some (.int .i64 (c : Nat)), some (.int .i64 (k : Nat)), some (u 9), none, none, none, none, none, none, none, none, none, some (u 19), some (u 20), some (u 21), some (u 22), some (u 23), some (u 24), some (u 25), some (u 26), some (u 27), some (u 28), some (u 29), some (u 30), some (u 31), some (u 32), some (u 33), some (u 34), some (u 35), some (u 36), some (u 37), some (u 38), some (u 39), some (u 40), some (u 41), some (u 42), some (u 43), some (u 44), some (u 45), some (u 46), some (u 47), some (u 48), some (u 49), some (u 50), some (u 51), some (u 52), some (u 53), some (u 54), some (u 55), none, none, none]) (fun (k, out, c, ad, cap) => [none, none, none, some (osl ad k cap 87 1 (u32s out))]) (fun (k, out, c, ad, cap) => []) (0, [], 0, none, 0) (by kernel_rfl) ?_ (by kernel_rfl) ?_ ?_
    · exact ⟨Nat.zero_le _, rfl, Dig.nil, by omega, by simp [val], by omega, by omega⟩
    · exact subset_nil
    intro u i hC
    obtain ⟨k, out, c, ad, cap⟩ := i
    obtain ⟨hk, ho, hd, hc, hv, hcap, hm⟩ := hC
    refine JC_norm ⟨59, [], [_, _, _, _, _, _, _, _, _, _, _, _, _, _, _, _, _, _, _, _, _, _, _, _, _, _, _, _, _, _, _, _, _, _, _, _, _, _, _, _, _, _, _, _, _, _, _, _, _, _, _, _, _, _, _, _, _, _, _]⟩ [box _ _ [_], box _ _ [_], box _ _ [_], osl _ _ _ _ _ _] [_, _, _, _] rfl rfl rfl ?_
    have hX := (dig_limbsOf x1).getD k
    have hY := (dig_limbsOf x2).getD k
    refine JC_seq ?_
    refine JC_seq ?_
    refine JC_region ?_
    refine JL_move rfl ?_
    refine JL_fieldAddr fo24_0 rfl ?_
    refine JL_load 0 ty22 rfl rfl rfl ?_
    refine JL_len sl22 rfl ?_
    refine JL_lss rfl rfl ?_
    refine JL_split (fun h23 => ?_) (fun h23 => ?_)
    · refine JL_done_up 59 [box _ _ [_], box _ _ [_], box _ _ [_], osl _ _ _ _ _ _] [_, _, _, _] rfl rfl (by simp only [nrmF]; rfl) rfl rfl ?_
      refine JC_true rfl ?_
      refine JC_skip ?_
      refine JE_then ?_
      refine JC_seq ?_
      refine JC_block ?_
      refine JC_seq ?_
      refine JC_region ?_
      refine JL_fieldAddr fo24_0 rfl ?_
      refine JL_load 0 ty22 rfl rfl rfl ?_
      refine JL_move rfl ?_
      refine JL_idx k sl22 rfl rfl rfl (by omega) (Reads.view (List.mem_cons_of_mem _ List.mem_cons_self)) (by first | (rw [u32s_length]; omega) | (rw [i64s_length]; omega)) ?_
      refine JL_loadE ty87 rfl (Reads.view (List.mem_cons_of_mem _ List.mem_cons_self)) (u32s_get (by omega)) ?_
      refine JL_convInt us87 it2 rfl (IntWalk.i64_in _ (by omega)) ?_
      refine JL_move rfl ?_
      refine JL_sub_to rfl rfl (IntWalk.i64_in _ (by omega)) ?_
      refine JL_assign rfl ?_
      refine JL_done_up 59 [box _ _ [_], box _ _ [_], box _ _ [_], osl _ _ _ _ _ _] [_, _, _, _] rfl rfl (by simp only [nrmF]; rfl) rfl rfl ?_
      refine JC_seq ?_
      refine JC_seq ?_
      refine JC_region ?_
      refine JL_move rfl ?_
      refine JL_fieldAddr fo24_0 rfl ?_
      refine JL_load 1 ty22 rfl rfl rfl ?_
      refine JL_len sl22 rfl ?_
      refine JL_lss rfl rfl ?_
      refine JL_done_up 59 [box _ _ [_], box _ _ [_], box _ _ [_], osl _ _ _ _ _ _] [_, _, _, _] rfl rfl (by simp only [nrmF]; rfl) rfl rfl ?_
      refine JC_cutT ((Int)) (fun (t : Int) => t = ((limbsOf x1).getD k 0 : Nat) - (c : Nat) - ((limbsOf x2).getD k 0 : Nat)) (fun u (t : Int) => [none, none, none, none, none, none, none, none, none, some (.int .i64 t), none, none, none, none, none, none, none, none, none, none, none, none, none, none, none, none, none, none, none, none, none, none, none, none, none, none, none, none, none, some (u 39), some (u 40), some (u 41), some (u 42), some (u 43), some (u 44), some (u 45), some (u 46), none, none, none, none, none, none, none, none, none, none, none, none]) (fun (t : Int) => [none, none, none, none]) (fun (t : Int) => []) ?_ ?_
      · refine JC_cond rfl (fun hb => ?_) (fun hb => ?_)
        · have h38 := of_decide_eq_true hb
          refine JC_region ?_
          refine JL_move rfl ?_
          refine JL_fieldAddr fo24_0 rfl ?_
          refine JL_load 1 ty22 rfl rfl rfl ?_
          refine JL_move rfl ?_
          refine JL_idx k sl22 rfl rfl rfl (by omega) (Reads.view List.mem_cons_self) (by first | (rw [u32s_length]; omega) | (rw [i64s_length]; omega)) ?_
          refine JL_loadE ty87 rfl (Reads.view List.mem_cons_self) (u32s_get (by omega)) ?_
          refine JL_convInt us87 it2 rfl (IntWalk.i64_in _ (by omega)) ?_
          refine JL_sub_to rfl rfl (IntWalk.i64_in _ (by omega)) ?_
          refine JL_assign rfl ?_
          refine JL_nil_up 59 [box _ _ [_], box _ _ [_], box _ _ [_], osl _ _ _ _ _ _] [_, _, _, _] rfl rfl (by simp only [nrmF]; rfl) rfl rfl ?_
          refine JE_midS (((limbsOf x1).getD k 0 : Nat) - (c : Nat) - ((limbsOf x2).getD k 0 : Nat)) (by kernel_rfl) ?_ (by kernel_rfl) ?_
          · exact rfl
          · exact subset_app subset_nil ss0
        · have h38 := of_decide_eq_false hb
          refine JC_skip ?_
          refine JE_midS (((limbsOf x1).getD k 0 : Nat) - (c : Nat)) (by kernel_rfl) ?_ (by kernel_rfl) ?_
          · show _ = _ - _; rw [getD_of_ge (limbsOf x2) k (by omega)]; omega
          · exact subset_app subset_nil ss0
      intro u t ht
      refine JC_norm ⟨59, [], [_, _, _, _, _, _, _, _, _, _, _, _, _, _, _, _, _, _, _, _, _, _, _, _, _, _, _, _, _, _, _, _, _, _, _, _, _, _, _, _, _, _, _, _, _, _, _, _, _, _, _, _, _, _, _, _, _, _, _]⟩ [box _ _ [_], box _ _ [_], box _ _ [_], osl _ _ _ _ _ _] [_, _, _, _] rfl rfl rfl ?_
      refine JC_seq ?_
      refine JC_region ?_
      refine JL_assign rfl ?_
      refine JL_done_up 59 [box _ _ [_], box _ _ [_], box _ _ [_], osl _ _ _ _ _ _] [_, _, _, _] rfl rfl (by simp only [nrmF]; rfl) rfl rfl ?_
      refine JC_seq ?_
      refine JC_seq ?_
      refine JC_region ?_
      refine JL_move rfl ?_
      refine JL_lss rfl rfl ?_
      refine JL_done_up 59 [box _ _ [_], box _ _ [_], box _ _ [_], osl _ _ _ _ _ _] [_, _, _, _] rfl rfl (by simp only [nrmF]; rfl) rfl rfl ?_
      refine JC_cutT ((Int) × (Nat)) (fun (d, c2) => 0 ≤ d ∧ d < 1000000000 ∧ c2 ≤ 1 ∧ ((limbsOf x1).getD k 0 : Int) + 1000000000 * c2 = (limbsOf x2).getD k 0 + c + d) (fun u (d, c2) => [none, none, none, none, none, none, none, some (.int .i64 (c2 : Nat)), none, some (.int .i64 d), none, none, none, none, none, none, none, none, none, none, none, none, none, none, none, none, none, none, none, none, none, none, none, none, none, none, none, none, none, none, none, none, none, none, none, none, none, none, none, some (u 49), some (u 50), none, none, none, none, none, none, none, none]) (fun (d, c2) => [none, none, none, none]) (fun (d, c2) => []) ?_ ?_
      · refine JC_cond rfl (fun hb => ?_) (fun hb => ?_)
        · have h48 := of_decide_eq_true hb
          refine JC_seq ?_
          refine JC_region ?_
          refine JL_move rfl ?_
          refine JL_add_to rfl rfl (IntWalk.i64_in _ (by omega)) ?_
          refine JL_assign rfl ?_
          refine JL_done_up 59 [box _ _ [_], box _ _ [_], box _ _ [_], osl _ _ _ _ _ _] [_, _, _, _] rfl rfl (by simp only [nrmF]; rfl) rfl rfl ?_
          refine JC_region ?_
          refine JL_assign rfl ?_
          refine JL_nil_up 59 [box _ _ [_], box _ _ [_], box _ _ [_], osl _ _ _ _ _ _] [_, _, _, _] rfl rfl (by simp only [nrmF]; rfl) rfl rfl ?_
          refine JE_midS (t + 1000000000, 1) (by kernel_rfl) ?_ (by kernel_rfl) ?_
          · exact ⟨by omega, by omega, by omega, by omega⟩
          · exact subset_app subset_nil ss0
        · have h48 := of_decide_eq_false hb
          refine JC_skip ?_
          refine JE_midS (t, 0) (by kernel_rfl) ?_ (by kernel_rfl) ?_
          · exact ⟨by omega, by omega, by omega, by omega⟩
          · exact subset_app subset_nil ss0
      intro u i hC
      obtain ⟨d, c2⟩ := i
      obtain ⟨hd0, hd1, hc2, hdd⟩ := hC
      refine JC_norm ⟨59, [], [_, _, _, _, _, _, _, _, _, _, _, _, _, _, _, _, _, _, _, _, _, _, _, _, _, _, _, _, _, _, _, _, _, _, _, _, _, _, _, _, _, _, _, _, _, _, _, _, _, _, _, _, _, _, _, _, _, _, _]⟩ [box _ _ [_], box _ _ [_], box _ _ [_], osl _ _ _ _ _ _] [_, _, _, _] rfl rfl rfl ?_
      refine JC_region ?_
      refine JL_move rfl ?_
      refine JL_move rfl ?_
      refine JL_convInt us2 it87 rfl (IntWalk.u32_in _ (by omega)) ?_
      refine JL_build1 sl22 rfl rfl (fun g54 => ?_)
      refine JL_appendU (L := _) 3 4 d.toNat sl22 rfl rfl rfl rfl (by omega) (by omega) (by omega) (fun ad55 cap55 hc55 => ?_)
      refine JL_dropAt 4 ?_
      refine JL_norm _ [box _ _ [_], box _ _ [_], box _ _ [_], osl _ _ _ _ _ _] [_, _, _, _] rfl rfl rfl ?_
      refine JL_assign rfl ?_
      refine JL_nil_up 59 [box _ _ [_], box _ _ [_], box _ _ [_], osl _ _ _ _ _ _] [_, _, _, _] rfl rfl (by simp only [nrmF]; rfl) rfl rfl ?_
      refine JE_block_normal ?_
      refine JE_then ?_
      refine JC_region ?_
      refine JL_move rfl ?_
      refine JL_add_to rfl rfl (IntWalk.i64_in _ (by omega)) ?_
      refine JL_assign rfl ?_
      refine JL_nil_up 59 [box _ _ [_], box _ _ [_], box _ _ [_], osl _ _ _ _ _ _] [_, _, _, _] rfl rfl (by simp only [nrmF]; rfl) rfl rfl ?_
      refine JE_nextS (k + 1, out ++ [d.toNat], c2, ad55, cap55) (by kernel_rfl) ?_ ?_ (by kernel_rfl) ?_
      · exact ⟨by omega, by rw [len_snoc]; omega, dig_snoc hd (by omega), by omega, minus_step ho hv (by omega), by omega, by omega⟩
      · first | omega | (dsimp only; omega)
      · exact subset_app subset_nil ss0
    · refine JL_done_up 59 [box _ _ [_], box _ _ [_], box _ _ [_], osl _ _ _ _ _ _] [_, _, _, _] rfl rfl (by simp only [nrmF]; rfl) rfl rfl ?_
      refine JC_false rfl ?_
      refine JC_exit ?_
      refine JE_then_exit ?_
      refine JE_nextS_exit ?_
      refine JE_block_exit ?_
      refine JE_then ?_
      refine JC_seq ?_
      refine JC_region ?_
      refine JL_move rfl ?_
      refine JL_build (cs := [_]) [(0, [_])] st24 ⟨⟨rfl, _, rfl, rfl⟩, rfl⟩ rfl ?_
      refine JL_callF' (Asks.cons (by first | exact holds_of_mem (by repeat (first | with_reducible exact mm0 | refine mmS ?_)) | (exact holds_of_own 3 rfl)) Asks.nil) (rnorm_con _ _ _ _ (x1 - x2) ⟨ho, U32.ofDig hd, by rw [minus_val (A := (limbsOf x1)) (C := (limbsOf x2)) ho hd (by omega) (by rw [val_limbsOf, val_limbsOf]; exact hle) (by omega) hv, val_limbsOf, val_limbsOf], by omega⟩) rfl ca94 ⟨rfl, rfl⟩ ?_
      rintro _ _ ⟨ad58, cap58, rfl, hk58, hm58, rfl⟩
      refine JL_store (vs := [_]) 2 ty24 rfl rfl rfl (AllOne.cons rfl AllOne.nil) rfl (Nat.le_of_ble_eq_true rfl) ?_
      refine JL_assign rfl ?_
      refine JL_done_up 59 [box _ _ [_], box _ _ [_], box _ _ [_], osl _ _ _ _ _ _] [_, _, _, _, _] rfl rfl (by simp only [nrmF]; rfl) rfl rfl ?_
      refine JC_ret ?_
      refine JE_ret (vs := [_, _]) [vCells ad58 (u32s (limbsOf (x1 - x2)))] Tryd.results72 ⟨RV.cell (vs := [_]) 2 ty24 rfl rfl ⟨rfl, trivial⟩, rfl, rfl⟩ ?_ ?_
      · exact ⟨ad58, cap58, by rw [if_neg (by omega)]; rfl, hk58, hm58, rfl⟩
      · exact (all_cons (by repeat (first | with_reducible exact mm0 | refine mmS ?_)) all_nil)

end Go.Fw.K
