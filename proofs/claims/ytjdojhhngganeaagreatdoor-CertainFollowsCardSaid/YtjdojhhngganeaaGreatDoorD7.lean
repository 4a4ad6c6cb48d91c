/- Walks through functions of the given program: each meets its contract. (Printed by a program of this repo.) -/
import Derived.Test.YtjdojhhngganeaaGreatDoorD6
import Derived.Test.YtjdojhhngganeaaGreatDoorProg
namespace Go.Fw.D7
open Go Go.RowKit Go.Proofs Go.Nat9 Go.Fw
attribute [local irreducible] JC JL JE
theorem ca13 : callable Tryz.prog 13 = true := by kernel_rfl
theorem ca14 : callable Tryz.prog 14 = true := by kernel_rfl
theorem ca26 : callable Tryz.prog 26 = true := by kernel_rfl
theorem ca28 : callable Tryz.prog 28 = true := by kernel_rfl
theorem ca29 : callable Tryz.prog 29 = true := by kernel_rfl
theorem ca50 : callable Tryz.prog 50 = true := by kernel_rfl
theorem ca51 : callable Tryz.prog 51 = true := by kernel_rfl
theorem fo44_0 : fOf Tryz.prog 44 0 = some 0 := by kernel_rfl
theorem fo44_1 : fOf Tryz.prog 44 1 = some 1 := by kernel_rfl
theorem mixed : Tryz.prog.follows .mixedOrders = true := by kernel_rfl
theorem sl29 : slOf Tryz.prog 29 = some (44, 2, 16, [.int .i64 0, .int .i64 0]) := by kernel_rfl
theorem st36 : stOf Tryz.prog 36 = some ([(0, 1), (1, 1), (2, 1)], [.bool false, .slice none 0 0, .slice none 0 0]) := by kernel_rfl
theorem st44 : stOf Tryz.prog 44 = some ([(0, 1), (1, 1)], [.int .i64 0, .int .i64 0]) := by kernel_rfl
theorem ty3 : tyOf Tryz.prog 3 = some (false, 1) := by kernel_rfl
theorem ty36 : tyOf Tryz.prog 36 = some (true, 3) := by kernel_rfl
theorem ty44 : tyOf Tryz.prog 44 = some (true, 2) := by kernel_rfl
theorem z36 : zeroOf Tryz.prog 36 = some [.bool false, .slice none 0 0, .slice none 0 0] := by kernel_rfl
theorem z44 : zeroOf Tryz.prog 44 = some [.int .i64 0, .int .i64 0] := by kernel_rfl
end Go.Fw.D7
namespace Go.Fw.K
open Go Go.RowKit Go.Proofs Go.Nat9 Go.Fw Go.Fw.D7
attribute [local irreducible] JC JL JE

set_option maxHeartbeats 4000000 in
theorem balanced_con {ad : Option Addr} {c : Nat} {l : List Pr} {n : Int} (hln : l.length ≤ 1000) (hcp : l.length ≤ c) :
    ConF Tryz.prog 21 [.int .i64 n, .slice ad l.length c] [vCells ad (pcells l)]
      (PFE (balP n l) (balO n l) (balE n l)) := by
  have hol := opn_len n l
  refine ConF_of Tryz.func21 rfl 74 _ rfl rfl ?_
  intro w0
  refine JC_norm ⟨74, [], [_, _, _, _, _, _, _, _, _, _, _, _, _, _, _, _, _, _, _, _, _, _, _, _, _, _, _, _, _, _, _, _, _, _, _, _, _, _, _, _, _, _, _, _, _, _, _, _, _, _, _, _, _, _, _, _, _, _, _, _, _, _, _, _, _, _, _, _, _, _, _, _, _, _]⟩ [] [_] rfl rfl rfl ?_
  refine JC_seq ?_
  refine JC_region ?_
  refine JL_alloc z44 (fun b4 => ?_)
  refine JL_alloc z36 (fun b5 => ?_)
  refine JL_assign rfl ?_
  refine JL_done_up 74 [box _ _ [_, _], box _ _ [_, _, _]] [_] rfl rfl (by simp only [nrmF]; rfl) rfl rfl ?_
  refine JC_seq ?_
  refine JC_region ?_
  refine JL_move rfl ?_
  refine JL_move rfl ?_
  refine JL_callF' (Asks.cons (holds_of_mem (by repeat (first | with_reducible exact mm0 | refine mmS ?_))) Asks.nil) (open_con (by omega)) rfl ca13 ⟨rfl, rfl, rfl⟩ ?_
  rintro _ _ ⟨ad20, c20, rfl, hc20, rfl⟩
  refine JL_move rfl ?_
  refine JL_extract rfl rfl ?_
  refine JL_extract rfl rfl ?_
  refine JL_assign rfl ?_
  refine JL_assign rfl ?_
  refine JL_done_up 74 [box _ _ [_, _], box _ _ [_, _, _]] [_, _] rfl rfl (by simp only [nrmF]; rfl) rfl rfl ?_
  refine JC_seq ?_
  refine JC_block ?_
  refine JC_seq ?_
  refine JC_region ?_
  refine JL_move rfl ?_
  refine JL_neq rfl rfl ?_
  refine JL_split (fun h25 => ?_) (fun h25 => ?_)
  · refine JL_assign rfl ?_
    refine JL_done_up 74 [box _ _ [_, _], box _ _ [_, _, _]] [_, _] rfl rfl (by simp only [nrmF]; rfl) rfl rfl ?_
    refine JC_true rfl ?_
    refine JC_seq ?_
    refine JC_region ?_
    refine JL_build (cs := [_, _]) [] st44 rfl rfl ?_
    refine JL_build (cs := [_, _, _]) [] st36 rfl rfl ?_
    refine JL_move rfl ?_
    refine JL_store (vs := [_, _]) 0 ty44 rfl rfl rfl (AllOne.cons rfl (AllOne.cons rfl AllOne.nil)) rfl (Nat.le_of_ble_eq_true rfl) ?_
    refine JL_store (vs := [_, _, _]) 1 ty36 rfl rfl rfl (AllOne.cons rfl (AllOne.cons rfl (AllOne.cons rfl AllOne.nil))) rfl (Nat.le_of_ble_eq_true rfl) ?_
    refine JL_assign rfl ?_
    refine JL_done_up 74 [box _ _ [_, _], box _ _ [_, _, _]] [_, _] rfl rfl (by simp only [nrmF]; rfl) rfl rfl ?_
    refine JC_ret ?_
    refine JE_block_ret ?_
    refine JE_then_ret ?_
    have hbe : balE n l = seqE n l := balE_no h25
    have hbn : ¬ balE n l = 0 := by rw [hbe]; first | assumption | decide
    refine JE_nilView ?_
    refine JE_ret (vs := [_, _, _]) [vCells none (u32s []), vCells none (u32s [])] Tryz.results21 ⟨RV.cell (vs := [_, _]) 0 ty44 rfl rfl ⟨rfl, rfl, trivial⟩, RV.cell (vs := [_, _, _]) 1 ty36 rfl rfl ⟨rfl, rfl, rfl, trivial⟩, rfl, rfl⟩ ?_ ?_
    · exact ⟨none, 0, none, 0, by rw [(bal_none hbn).1, (bal_none hbn).2, hbe]; rfl, by rw [(bal_none hbn).2]; rfl⟩
    · exact (all_cons (by repeat (first | with_reducible exact mm0 | refine mmS ?_)) (all_cons (by repeat (first | with_reducible exact mm0 | refine mmS ?_)) all_nil))
  · refine JL_assign rfl ?_
    refine JL_done_up 74 [box _ _ [_, _], box _ _ [_, _, _]] [_, _] rfl rfl (by simp only [nrmF]; rfl) rfl rfl ?_
    refine JC_false rfl ?_
    refine JC_seq ?_
    refine JC_region ?_
    refine JL_move rfl ?_
    refine JL_len sl29 rfl ?_
    refine JL_eql rfl rfl ?_
    refine JL_split (fun h32 => ?_) (fun h32 => ?_)
    · refine JL_assign rfl ?_
      refine JL_done_up 74 [box _ _ [_, _], box _ _ [_, _, _]] [_, _] rfl rfl (by simp only [nrmF]; rfl) rfl rfl ?_
      refine JC_true rfl ?_
      refine JC_seq ?_
      refine JC_region ?_
      refine JL_build (cs := [_, _]) [] st44 rfl rfl ?_
      refine JL_build (cs := [_, _, _]) [] st36 rfl rfl ?_
      refine JL_store (vs := [_, _]) 0 ty44 rfl rfl rfl (AllOne.cons rfl (AllOne.cons rfl AllOne.nil)) rfl (Nat.le_of_ble_eq_true rfl) ?_
      refine JL_store (vs := [_, _, _]) 1 ty36 rfl rfl rfl (AllOne.cons rfl (AllOne.cons rfl (AllOne.cons rfl AllOne.nil))) rfl (Nat.le_of_ble_eq_true rfl) ?_
      refine JL_assign rfl ?_
      refine JL_done_up 74 [box _ _ [_, _], box _ _ [_, _, _]] [_, _] rfl rfl (by simp only [nrmF]; rfl) rfl rfl ?_
      refine JC_ret ?_
      refine JE_block_ret ?_
      refine JE_then_ret ?_
      have hbe : balE n l = 7 := balE_7 (Classical.byContradiction h25) (by omega)
      have hbn : ¬ balE n l = 0 := by rw [hbe]; first | assumption | decide
      refine JE_nilView ?_
      refine JE_ret (vs := [_, _, _]) [vCells none (u32s []), vCells none (u32s [])] Tryz.results21 ⟨RV.cell (vs := [_, _]) 0 ty44 rfl rfl ⟨rfl, rfl, trivial⟩, RV.cell (vs := [_, _, _]) 1 ty36 rfl rfl ⟨rfl, rfl, rfl, trivial⟩, rfl, rfl⟩ ?_ ?_
      · exact ⟨none, 0, none, 0, by rw [(bal_none hbn).1, (bal_none hbn).2, hbe]; rfl, by rw [(bal_none hbn).2]; rfl⟩
      · exact (all_cons (by repeat (first | with_reducible exact mm0 | refine mmS ?_)) (all_cons (by repeat (first | with_reducible exact mm0 | refine mmS ?_)) all_nil))
    · refine JL_assign rfl ?_
      refine JL_done_up 74 [box _ _ [_, _], box _ _ [_, _, _]] [_, _] rfl rfl (by simp only [nrmF]; rfl) rfl rfl ?_
      refine JC_false rfl ?_
      refine JC_skip ?_
      refine JE_block_normal ?_
      refine JE_then ?_
      refine JC_seq ?_
      refine JC_region ?_
      refine JL_alloc z44 (fun b9 => ?_)
      refine JL_done_up 74 [box _ _ [_, _], box _ _ [_, _, _], box _ _ [_, _]] [_, _] rfl rfl (by simp only [nrmF]; rfl) rfl rfl ?_
      refine JC_seq ?_
      refine JC_region ?_
      refine JL_alloc z36 (fun b10 => ?_)
      refine JL_alloc z36 (fun b11 => ?_)
      refine JL_done_up 74 [box _ _ [_, _], box _ _ [_, _, _], box _ _ [_, _], box _ _ [_, _, _], box _ _ [_, _, _]] [_, _] rfl rfl (by simp only [nrmF]; rfl) rfl rfl ?_
      refine JC_seq ?_
      refine JC_seq ?_
      refine JC_region ?_
      refine JL_move rfl ?_
      refine JL_len sl29 rfl ?_
      refine JL_move rfl ?_
      refine JL_done_up 74 [box _ _ [_, _], box _ _ [_, _, _], box _ _ [_, _], box _ _ [_, _, _], box _ _ [_, _, _]] [_, _] rfl rfl (by simp only [nrmF]; rfl) rfl rfl ?_
      refine JC_block ?_
      refine JC_addView (f := true) (p := vCells none (u32s (fnum (none : Option Rat)))) (fun _ _ => nil_view) ?_
      refine JC_addView (f := true) (p := vCells none (u32s (fden (none : Option Rat)))) (fun _ _ => nil_view) ?_
      refine JC_loopS ((Nat) × (Pr) × (Option Rat) × (Option Rat) × (Option Addr) × (Nat) × (Option Addr) × (Nat) × (Option Addr) × (Nat) × (Option Addr) × (Nat)) (fun (i, p, o1, o2, ad1, c1, be1, e1, ad2, c2, be2, e2) => i ≤ (opnR n l).length ∧ balS (fun p => shQ n l p.1 p.2) (opnR n l) i = (p, o1, o2)) (fun (i, p, o1, o2, ad1, c1, be1, e1, ad2, c2, be2, e2) => (opnR n l).length - i) (fun u (i, p, o1, o2, ad1, c1, be1, e1, ad2, c2, be2, e2) => [none, none, none, none, none, none, none, none, none, none, none, none, some (u 12), some (u 13), some (u 14), some (u 15), some (u 16), none, none, none, none, none, none, none, none, none, none, none, none, none, none, none, none, none, none, none, none, some (.int .i64 (i : Nat)), some (u 38), some (u 39), some (u 40), some (u 41), some (u 42), some (u 43), some (u 44), some (u 45), some (u 46), some (u 47), some (u 48), some (u 49), some (u 50), some (u 51), some (u 52), some (u 53), some (u 54), some (u 55), some (u 56), some (u 57), some (u 58), some (u 59), some (u 60), some (u 61), some (u 62), some (u 63), some (u 64), some (u 65), some (u 66), some (u 67), some (u 68), some (u 69), some (u 70), some (u 71), none, none]) (fun (i, p, o1, o2, ad1, c1, be1, e1, ad2, c2, be2, e2) => [none, none, some (box b9 44 [.int .i64 p.1, .int .i64 p.2]), some (box b10 36 [.bool (fneg (o1)), .slice ad1 (fnum (o1)).length c1, .slice be1 (fden (o1)).length e1]), some (box b11 36 [.bool (fneg (o2)), .slice ad2 (fnum (o2)).length c2, .slice be2 (fden (o2)).length e2])]) (fun (i, p, o1, o2, ad1, c1, be1, e1, ad2, c2, be2, e2) => [(true, vCells ad1 (u32s (fnum (o1)))), (true, vCells be1 (u32s (fden (o1)))), (true, vCells ad2 (u32s (fnum (o2)))), (true, vCells be2 (u32s (fden (o2))))]) (0, dP, (none : Option Rat), (none : Option Rat), none, 0, none, 0, none, 0, none, 0) (by kernel_rfl) ?_ (by kernel_rfl) ?_ ?_
      · exact ⟨Nat.zero_le _, rfl⟩
      · exact (subset_cons (by repeat (first | with_reducible exact mm0 | refine mmS ?_)) (subset_cons (by repeat (first | with_reducible exact mm0 | refine mmS ?_)) (subset_cons (by repeat (first | with_reducible exact mm0 | refine mmS ?_)) (subset_cons (by repeat (first | with_reducible exact mm0 | refine mmS ?_)) subset_nil))))
      intro u i hC
      obtain ⟨i, p, o1, o2, ad1, c1, be1, e1, ad2, c2, be2, e2⟩ := i
      obtain ⟨hi, hB⟩ := hC
      refine JC_norm ⟨74, [], [_, _, _, _, _, _, _, _, _, _, _, _, _, _, _, _, _, _, _, _, _, _, _, _, _, _, _, _, _, _, _, _, _, _, _, _, _, _, _, _, _, _, _, _, _, _, _, _, _, _, _, _, _, _, _, _, _, _, _, _, _, _, _, _, _, _, _, _, _, _, _, _, _, _]⟩ [box _ _ [_, _], box _ _ [_, _, _], box _ _ [_, _], box _ _ [_, _, _], box _ _ [_, _, _]] [_, _, _, _, _, _, _, _] rfl rfl rfl ?_
      have hq2 : qs (fval o2) 7 := by have e := (bal_qs (sh := fun p => shQ n l p.1 p.2) (o := opnR n l) (fun p => qs_shQ n l p.1 p.2) i).2; rw [hB] at e; exact e
      refine JC_seq ?_
      refine JC_region ?_
      refine JL_lss rfl rfl ?_
      refine JL_split (fun h38 => ?_) (fun h38 => ?_)
      · refine JL_done_up 74 [box _ _ [_, _], box _ _ [_, _, _], box _ _ [_, _], box _ _ [_, _, _], box _ _ [_, _, _]] [_, _, _, _, _, _, _, _] rfl rfl (by simp only [nrmF]; rfl) rfl rfl ?_
        refine JC_seq ?_
        refine JC_true rfl ?_
        refine JC_skip ?_
        refine JE_then ?_
        refine JC_seq ?_
        refine JC_cutT ((Pr) × (Option Rat) × (Option Rat) × (Option Addr) × (Nat) × (Option Addr) × (Nat) × (Option Addr) × (Nat) × (Option Addr) × (Nat)) (fun (p2, o3, o4, ad3, c3, be3, e3, ad4, c4, be4, e4) => balS (fun p => shQ n l p.1 p.2) (opnR n l) (i + 1) = (p2, o3, o4)) (fun u (p2, o3, o4, ad3, c3, be3, e3, ad4, c4, be4, e4) => [none, none, none, none, none, none, none, none, none, none, none, none, some (u 12), some (u 13), some (u 14), some (u 15), some (u 16), none, none, none, none, none, none, none, none, none, none, none, none, none, none, none, none, none, none, none, none, none, none, some (u 39), some (u 40), some (u 41), some (u 42), some (u 43), some (u 44), some (u 45), some (u 46), some (u 47), some (u 48), some (u 49), some (u 50), some (u 51), some (u 52), some (u 53), some (u 54), some (u 55), some (u 56), some (u 57), some (u 58), some (u 59), some (u 60), some (u 61), some (u 62), some (u 63), some (u 64), some (u 65), some (u 66), some (u 67), some (u 68), some (u 69), some (u 70), none, none, none]) (fun (p2, o3, o4, ad3, c3, be3, e3, ad4, c4, be4, e4) => [none, none, some (box b9 44 [.int .i64 p2.1, .int .i64 p2.2]), some (box b10 36 [.bool (fneg (o3)), .slice ad3 (fnum (o3)).length c3, .slice be3 (fden (o3)).length e3]), some (box b11 36 [.bool (fneg (o4)), .slice ad4 (fnum (o4)).length c4, .slice be4 (fden (o4)).length e4])]) (fun (p2, o3, o4, ad3, c3, be3, e3, ad4, c4, be4, e4) => [(true, vCells ad3 (u32s (fnum (o3)))), (true, vCells be3 (u32s (fden (o3)))), (true, vCells ad4 (u32s (fnum (o4)))), (true, vCells be4 (u32s (fden (o4))))]) ?_ ?_
        · refine JC_block ?_
          refine JC_seq ?_
          obtain ⟨hz, hsc⟩ := opn_in (getD_mem2 (l := opnR n l) (j := i) (by omega))
          refine JC_region ?_
          refine JL_move rfl ?_
          refine JL_indexAddr i sl29 rfl rfl rfl (by omega) (by first | exact Reads.view (by repeat (first | with_reducible exact mm0 | refine mmS ?_))) (by rw [pcells_length]; omega) ?_
          refine JL_loadEA (vs := [_, _]) ty44 (Nat.zero_lt_succ _) rfl (by first | exact Reads.view (by repeat (first | with_reducible exact mm0 | refine mmS ?_))) (pcells_getA (by omega)) ?_
          refine JL_alloc z44 (fun b13 => ?_)
          refine JL_assign rfl ?_
          refine JL_store (vs := [_, _]) 5 ty44 rfl rfl rfl (AllOne.cons rfl (AllOne.cons rfl AllOne.nil)) rfl (Nat.le_of_ble_eq_true rfl) ?_
          refine JL_done_up 74 [box _ _ [_, _], box _ _ [_, _, _], box _ _ [_, _], box _ _ [_, _, _], box _ _ [_, _, _], box _ _ [_, _]] [_, _, _, _, _, _, _, _] rfl rfl (by simp only [nrmF]; rfl) rfl rfl ?_
          refine JC_seq ?_
          refine JC_region ?_
          refine JL_move rfl ?_
          refine JL_move rfl ?_
          refine JL_fieldAddr fo44_0 rfl ?_
          refine JL_load 5 ty3 rfl rfl rfl ?_
          refine JL_fieldAddr fo44_1 rfl ?_
          refine JL_load 5 ty3 rfl rfl rfl ?_
          refine JL_callF' (Asks.cons (holds_of_mem (by repeat (first | with_reducible exact mm0 | refine mmS ?_))) Asks.nil) (share_con (a := ((opnR n l).getD i dP).1) (b := ((opnR n l).getD i dP).2) (by omega) hcp) rfl ca14 ⟨rfl, rfl, rfl, rfl, rfl⟩ ?_
          rintro _ _ ⟨ad49, cp49, be49, ce49, rfl, rfl⟩
          rw [(sh_ok hz hsc).1, (sh_ok hz hsc).2]
          refine JL_move rfl ?_
          refine JL_extract rfl rfl ?_
          refine JL_extract rfl rfl ?_
          refine JL_alloc z36 (fun b14 => ?_)
          refine JL_store (vs := [_, _, _]) 6 ty36 rfl rfl rfl (AllOne.cons rfl (AllOne.cons rfl (AllOne.cons rfl AllOne.nil))) rfl (Nat.le_of_ble_eq_true rfl) ?_
          refine JL_assign rfl ?_
          refine JL_done_up 74 [box _ _ [_, _], box _ _ [_, _, _], box _ _ [_, _], box _ _ [_, _, _], box _ _ [_, _, _], box _ _ [_, _], box _ _ [_, _, _]] [_, _, _, _, _, _, _, _, _, _] rfl rfl (by simp only [nrmF]; rfl) rfl rfl ?_
          refine JC_seq ?_
          refine JC_drawT mixed 4 [spV 52 [] _, spC 53 [] _, spC 54 [0, 1] _, spA 16 36 [.bool false, .slice none 0 0, .slice none 0 0]] ⟨OblS_V (fun vals ex ψ => (by
              refine JL_normQ _ (_ :: _ :: _ :: _ :: _ :: _ :: _ :: _ :: _ :: _ :: ψ) rfl rfl ?_
              refine JL_loadA (vs := [_, _, _]) 6 ty36 rfl rfl ⟨rfl, rfl, rfl, trivial⟩ ?_
              exact JL_nil (JE_stepV rfl ss0))), OblS_C (fun vals ex ψ => (by
              refine JL_normQ ⟨74, [(52, _), (53, _), (54, _), (16, _)], _⟩ (_ :: _ :: _ :: _ :: _ :: _ :: _ :: _ :: _ :: _ :: ψ) rfl rfl ?_
              refine JL_callF' Asks.nil (fofi_con 1 2 (by omega) (by omega)) rfl ca28 ⟨rfl, rfl, rfl⟩ ?_
              exact fun v φo hP => JL_nil (JE_stepC φo rfl hP (fun p hp => mapB_l hp) (fun p hp => mapB_r (ss0 p hp))))), OblS_C (fun vals ex ψ => (by
              refine JL_normQ ⟨74, [(52, _), (53, _), (54, _), (16, _)], _⟩ (_ :: _ :: _ :: _ :: _ :: _ :: _ :: _ :: _ :: _ :: _ :: ψ) rfl rfl ?_
              generalize vals 1 = x53
              refine JL_usePost mm0 (fun φo hP => ?_)
              obtain ⟨ad53, cp53, be53, ce53, rfl, rfl⟩ := hP
              refine JL_norm _ _ (_ :: _ :: _ :: _ :: _ :: _ :: _ :: _ :: _ :: _ :: _ :: _ :: _ :: ψ) rfl rfl rfl ?_
              refine JL_callF' (Asks.cons (holds_of_mem (by repeat (first | with_reducible exact mm0 | refine mmS ?_))) (Asks.cons (holds_of_mem (by repeat (first | with_reducible exact mm0 | refine mmS ?_))) (Asks.cons (holds_of_mem (by repeat (first | with_reducible exact mm0 | refine mmS ?_))) (Asks.cons (holds_of_mem (by repeat (first | with_reducible exact mm0 | refine mmS ?_))) Asks.nil)))) (fsubq_con (FIn.some ((qs_shQ n l ((opnR n l).getD i dP).1 ((opnR n l).getD i dP).2).mono (by decide))) (FIn.some (q := ofq 1 2) ((qs_ofq 1 2 (by decide) (by decide)).mono (by decide)))) rfl ca50 ⟨rfl, rfl, rfl⟩ ?_
              exact fun v φo hP => JL_nil (JE_stepC φo rfl hP (fun p hp => mapB_l hp) (fun p hp => mapB_r ((ssS (ssS ss0)) p hp))))), OblS_al rfl z36, trivial⟩ (by kernel_rfl) (fun vals bs => ?_)
          refine JL_normL [_] ⟨74, [(52, _), (53, _), (54, _), (16, _)], _⟩ [box _ _ [_, _], box _ _ [_, _, _], box _ _ [_, _], box _ _ [_, _, _], box _ _ [_, _, _], box _ _ [_, _], box _ _ [_, _, _], box _ _ [_, _, _]] [_, _, _, _, _, _, _, _, _, _, _, _] rfl rfl rfl rfl ?_
          generalize vals (0 + 1) = x53
          generalize vals (0 + 1 + 1) = x54
          generalize bs (0 + 1 + 1 + 1) = b16
          refine JL_usePost (mmS mm0) (fun φo hP => ?_)
          obtain ⟨ad54, cp54, be54, ce54, rfl, rfl⟩ := hP
          refine JL_norm _ [box _ _ [_, _], box _ _ [_, _, _], box _ _ [_, _], box _ _ [_, _, _], box _ _ [_, _, _], box _ _ [_, _], box _ _ [_, _, _], box _ _ [_, _, _]] [_, _, _, _, _, _, _, _, _, _, _, _, _, _] rfl rfl rfl ?_
          refine JL_store (vs := [_, _, _]) 7 ty36 rfl rfl rfl (AllOne.cons rfl (AllOne.cons rfl (AllOne.cons rfl AllOne.nil))) rfl (Nat.le_of_ble_eq_true rfl) ?_
          refine JL_done_up 74 [box _ _ [_, _], box _ _ [_, _, _], box _ _ [_, _], box _ _ [_, _, _], box _ _ [_, _, _], box _ _ [_, _], box _ _ [_, _, _], box _ _ [_, _, _]] [_, _, _, _, _, _, _, _, _, _, _, _, _, _] rfl rfl (by simp only [nrmF]; rfl) rfl rfl ?_
          refine JC_seq ?_
          refine JC_seq ?_
          refine JC_region ?_
          refine JL_loadA (vs := [_, _, _]) 7 ty36 rfl rfl ⟨rfl, rfl, rfl, trivial⟩ ?_
          refine JL_callF' (Asks.cons (holds_of_mem (by repeat (first | with_reducible exact mm0 | refine mmS ?_))) (Asks.cons (holds_of_mem (by repeat (first | with_reducible exact mm0 | refine mmS ?_))) Asks.nil)) (fsign_con (FIn.some ((qs_off (qs_shQ n l ((opnR n l).getD i dP).1 ((opnR n l).getD i dP).2)).1.mono (by decide)))) rfl ca29 ⟨rfl, rfl⟩ ?_
          rintro _ _ ⟨rfl, rfl⟩
          refine JL_lss rfl rfl ?_
          refine JL_done_up 74 [box _ _ [_, _], box _ _ [_, _, _], box _ _ [_, _], box _ _ [_, _, _], box _ _ [_, _, _], box _ _ [_, _], box _ _ [_, _, _], box _ _ [_, _, _]] [_, _, _, _, _, _, _, _, _, _, _, _, _, _] rfl rfl (by simp only [nrmF]; rfl) rfl rfl ?_
          refine JC_cutT ((Option Addr) × (Nat) × (Option Addr) × (Nat)) (fun (ad5, c5, be5, e5) => True) (fun u (ad5, c5, be5, e5) => [none, none, none, none, none, none, none, none, none, none, none, none, none, none, none, none, none, none, none, none, none, none, none, none, none, none, none, none, none, none, none, none, none, none, none, none, none, none, none, none, none, none, none, none, none, none, none, none, none, none, none, none, none, none, none, none, none, none, some (u 58), some (u 59), none, none, none, none, none, none, none, none, none, none, none, none, none, none]) (fun (ad5, c5, be5, e5) => [none, none, none, none, none, none, none, some (box b16 36 [.bool (fneg (some (offQ (shQ n l ((opnR n l).getD i dP).1 ((opnR n l).getD i dP).2)))), .slice ad5 (fnum (some (offQ (shQ n l ((opnR n l).getD i dP).1 ((opnR n l).getD i dP).2)))).length c5, .slice be5 (fden (some (offQ (shQ n l ((opnR n l).getD i dP).1 ((opnR n l).getD i dP).2)))).length e5])]) (fun (ad5, c5, be5, e5) => [(true, vCells ad5 (u32s (fnum (some (offQ (shQ n l ((opnR n l).getD i dP).1 ((opnR n l).getD i dP).2)))))), (true, vCells be5 (u32s (fden (some (offQ (shQ n l ((opnR n l).getD i dP).1 ((opnR n l).getD i dP).2))))))]) ?_ ?_
          · refine JC_cond rfl (fun hb => ?_) (fun hb => ?_)
            · have h57 := of_decide_eq_true hb
              refine JC_region ?_
              refine JL_loadA (vs := [_, _, _]) 7 ty36 rfl rfl ⟨rfl, rfl, rfl, trivial⟩ ?_
              refine JL_callF' (Asks.cons (holds_of_mem (by repeat (first | with_reducible exact mm0 | refine mmS ?_))) (Asks.cons (holds_of_mem (by repeat (first | with_reducible exact mm0 | refine mmS ?_))) Asks.nil)) (fneg_con (FIn.some ((qs_off (qs_shQ n l ((opnR n l).getD i dP).1 ((opnR n l).getD i dP).2)).1.mono (by decide)))) rfl ca51 ⟨rfl, rfl⟩ ?_
              rintro _ _ ⟨ad59, cp59, be59, ce59, rfl, rfl⟩
              refine JL_store (vs := [_, _, _]) 7 ty36 rfl rfl rfl (AllOne.cons rfl (AllOne.cons rfl (AllOne.cons rfl AllOne.nil))) rfl (Nat.le_of_ble_eq_true rfl) ?_
              refine JL_nil_up 74 [box _ _ [_, _], box _ _ [_, _, _], box _ _ [_, _], box _ _ [_, _, _], box _ _ [_, _, _], box _ _ [_, _], box _ _ [_, _, _], box _ _ [_, _, _]] [_, _, _, _, _, _, _, _, _, _, _, _, _, _, _, _] rfl rfl (by simp only [nrmF]; rfl) rfl rfl ?_
              first | rw [off_lt h57] | rw [off_ge h57]
              refine JE_midS (ad59, cp59, be59, ce59) (by kernel_rfl) ?_ (by kernel_rfl) ?_
              · exact trivial
              · exact subset_app (subset_cons (by repeat (first | with_reducible exact mm0 | refine mmS ?_)) (subset_cons (by repeat (first | with_reducible exact mm0 | refine mmS ?_)) subset_nil)) (ssS (ssS ss0))
            · have h57 := of_decide_eq_false hb
              refine JC_skip ?_
              first | rw [off_lt h57] | rw [off_ge h57]
              refine JE_midS (ad54, cp54, be54, ce54) (by kernel_rfl) ?_ (by kernel_rfl) ?_
              · exact trivial
              · exact subset_app (subset_cons (by repeat (first | with_reducible exact mm0 | refine mmS ?_)) (subset_cons (by repeat (first | with_reducible exact mm0 | refine mmS ?_)) subset_nil)) ss0
          intro u i _
          obtain ⟨ad5, c5, be5, e5⟩ := i
          refine JC_norm ⟨74, [], [_, _, _, _, _, _, _, _, _, _, _, _, _, _, _, _, _, _, _, _, _, _, _, _, _, _, _, _, _, _, _, _, _, _, _, _, _, _, _, _, _, _, _, _, _, _, _, _, _, _, _, _, _, _, _, _, _, _, _, _, _, _, _, _, _, _, _, _, _, _, _, _, _, _]⟩ [box _ _ [_, _], box _ _ [_, _, _], box _ _ [_, _], box _ _ [_, _, _], box _ _ [_, _, _], box _ _ [_, _], box _ _ [_, _, _], box _ _ [_, _, _]] [_, _, _, _, _, _, _, _, _, _, _, _, _, _, _, _] rfl rfl rfl ?_
          refine JC_seq ?_
          refine JC_region ?_
          refine JL_move rfl ?_
          refine JL_eql rfl rfl ?_
          refine JL_split (fun h61 => ?_) (fun h61 => ?_)
          · refine JL_move rfl ?_
            refine JL_guard_no rfl rfl ?_
            refine JL_guard_no rfl rfl ?_
            refine JL_guard_no rfl rfl ?_
            refine JL_guard_no rfl rfl ?_
            refine JL_pick_t rfl rfl ?_
            refine JL_done_up 74 [box _ _ [_, _], box _ _ [_, _, _], box _ _ [_, _], box _ _ [_, _, _], box _ _ [_, _, _], box _ _ [_, _], box _ _ [_, _, _], box _ _ [_, _, _]] [_, _, _, _, _, _, _, _, _, _, _, _, _, _, _, _] rfl rfl (by simp only [nrmF]; rfl) rfl rfl ?_
            refine JC_true rfl ?_
            refine JC_drawA mixed 6 rfl ?_
            refine JA_step [0, 1, 2] (by kernel_rfl) (by simp) ⟨⟨_, rfl, ?_⟩, ⟨_, rfl, ?_⟩, ⟨_, rfl, ?_⟩, trivial⟩
            · refine JL_loadA (vs := [_, _]) 5 ty44 rfl rfl ⟨rfl, rfl, trivial⟩ ?_
              refine JL_nil ?_
              refine JE_nextA ?_
              refine JA_step [1, 2, 3] (by kernel_rfl) (by simp) ⟨⟨_, rfl, ?_⟩, ⟨_, rfl, ?_⟩, ⟨_, rfl, ?_⟩, trivial⟩
              · refine JL_loadA (vs := [_, _, _]) 6 ty36 rfl rfl ⟨rfl, rfl, rfl, trivial⟩ ?_
                refine JL_nil ?_
                refine JE_nextA ?_
                refine JA_step [2, 3] (by kernel_rfl) (by simp) ⟨⟨_, rfl, ?_⟩, ⟨_, rfl, ?_⟩, trivial⟩
                · refine JL_loadA (vs := [_, _, _]) 7 ty36 rfl rfl ⟨rfl, rfl, rfl, trivial⟩ ?_
                  refine JL_nil ?_
                  refine JE_nextA ?_
                  refine JA_step [3] (by kernel_rfl) (by simp) ⟨⟨_, rfl, ?_⟩, trivial⟩
                  refine JL_store (vs := [_, _]) 2 ty44 rfl rfl rfl (AllOne.cons rfl (AllOne.cons rfl AllOne.nil)) rfl (Nat.le_of_ble_eq_true rfl) ?_
                  refine JL_nil_up 74 [box _ _ [_, _], box _ _ [_, _, _], box _ _ [_, _], box _ _ [_, _, _], box _ _ [_, _, _], box _ _ [_, _], box _ _ [_, _, _], box _ _ [_, _, _]] [_, _, _, _, _, _, _, _, _, _, _, _, _, _, _, _] rfl rfl (by simp only [nrmF]; rfl) rfl rfl ?_
                  refine JE_nextA ?_
                  refine JA_step [4] (by kernel_rfl) (by simp) ⟨⟨_, rfl, ?_⟩, trivial⟩
                  refine JL_store (vs := [_, _, _]) 3 ty36 rfl rfl rfl (AllOne.cons rfl (AllOne.cons rfl (AllOne.cons rfl AllOne.nil))) rfl (Nat.le_of_ble_eq_true rfl) ?_
                  refine JL_nil_up 74 [box _ _ [_, _], box _ _ [_, _, _], box _ _ [_, _], box _ _ [_, _, _], box _ _ [_, _, _], box _ _ [_, _], box _ _ [_, _, _], box _ _ [_, _, _]] [_, _, _, _, _, _, _, _, _, _, _, _, _, _, _, _] rfl rfl (by simp only [nrmF]; rfl) rfl rfl ?_
                  refine JE_nextA ?_
                  refine JA_step [5] (by kernel_rfl) (by simp) ⟨⟨_, rfl, ?_⟩, trivial⟩
                  refine JL_store (vs := [_, _, _]) 4 ty36 rfl rfl rfl (AllOne.cons rfl (AllOne.cons rfl (AllOne.cons rfl AllOne.nil))) rfl (Nat.le_of_ble_eq_true rfl) ?_
                  refine JL_nil_up 74 [box _ _ [_, _], box _ _ [_, _, _], box _ _ [_, _], box _ _ [_, _, _], box _ _ [_, _, _], box _ _ [_, _], box _ _ [_, _, _], box _ _ [_, _, _]] [_, _, _, _, _, _, _, _, _, _, _, _, _, _, _, _] rfl rfl (by simp only [nrmF]; rfl) rfl rfl ?_
                  refine JE_nextA ?_
                  refine JA_end (by kernel_rfl) ?_
                  refine JE_block_normal ?_
                  refine JE_dropAt 7 ?_
                  refine JE_norm _ [box _ _ [_, _], box _ _ [_, _, _], box _ _ [_, _], box _ _ [_, _, _], box _ _ [_, _, _], box _ _ [_, _], box _ _ [_, _, _]] [_, _, _, _, _, _, _, _, _, _, _, _, _, _, _, _] rfl rfl rfl ?_
                  refine JE_dropAt 6 ?_
                  refine JE_norm _ [box _ _ [_, _], box _ _ [_, _, _], box _ _ [_, _], box _ _ [_, _, _], box _ _ [_, _, _], box _ _ [_, _]] [_, _, _, _, _, _, _, _, _, _, _, _, _, _, _, _] rfl rfl rfl ?_
                  refine JE_dropAt 5 ?_
                  refine JE_norm _ [box _ _ [_, _], box _ _ [_, _, _], box _ _ [_, _], box _ _ [_, _, _], box _ _ [_, _, _]] [_, _, _, _, _, _, _, _, _, _, _, _, _, _, _, _] rfl rfl rfl ?_
                  refine JE_midS (((opnR n l).getD i dP), some (shQ n l ((opnR n l).getD i dP).1 ((opnR n l).getD i dP).2), some (offQ (shQ n l ((opnR n l).getD i dP).1 ((opnR n l).getD i dP).2)), ad49, cp49, be49, ce49, ad5, c5, be5, e5) (by kernel_rfl) ?_ (by kernel_rfl) ?_
                  · first | exact bal_up hB (.inl (by omega)) | exact bal_up hB (.inr h66)
                  · exact subset_app (subset_cons (by repeat (first | with_reducible exact mm0 | refine mmS ?_)) (subset_cons (by repeat (first | with_reducible exact mm0 | refine mmS ?_)) (subset_cons (by repeat (first | with_reducible exact mm0 | refine mmS ?_)) (subset_cons (by repeat (first | with_reducible exact mm0 | refine mmS ?_)) subset_nil)))) (ssS (ssS (ssS (ssS (ssS (ssS (ssS (ssS ss0))))))))
                · refine JL_store (vs := [_, _]) 2 ty44 rfl rfl rfl (AllOne.cons rfl (AllOne.cons rfl AllOne.nil)) rfl (Nat.le_of_ble_eq_true rfl) ?_
                  refine JL_nil_up 74 [box _ _ [_, _], box _ _ [_, _, _], box _ _ [_, _], box _ _ [_, _, _], box _ _ [_, _, _], box _ _ [_, _], box _ _ [_, _, _], box _ _ [_, _, _]] [_, _, _, _, _, _, _, _, _, _, _, _, _, _, _, _] rfl rfl (by simp only [nrmF]; rfl) rfl rfl ?_
                  refine JE_nextA ?_
                  refine JA_step [2, 4] (by kernel_rfl) (by simp) ⟨⟨_, rfl, ?_⟩, ⟨_, rfl, ?_⟩, trivial⟩
                  · refine JL_loadA (vs := [_, _, _]) 7 ty36 rfl rfl ⟨rfl, rfl, rfl, trivial⟩ ?_
                    refine JL_nil ?_
                    refine JE_nextA ?_
                    refine JA_step [4] (by kernel_rfl) (by simp) ⟨⟨_, rfl, ?_⟩, trivial⟩
                    refine JL_store (vs := [_, _, _]) 3 ty36 rfl rfl rfl (AllOne.cons rfl (AllOne.cons rfl (AllOne.cons rfl AllOne.nil))) rfl (Nat.le_of_ble_eq_true rfl) ?_
                    refine JL_nil_up 74 [box _ _ [_, _], box _ _ [_, _, _], box _ _ [_, _], box _ _ [_, _, _], box _ _ [_, _, _], box _ _ [_, _], box _ _ [_, _, _], box _ _ [_, _, _]] [_, _, _, _, _, _, _, _, _, _, _, _, _, _, _, _] rfl rfl (by simp only [nrmF]; rfl) rfl rfl ?_
                    refine JE_nextA ?_
                    refine JA_step [5] (by kernel_rfl) (by simp) ⟨⟨_, rfl, ?_⟩, trivial⟩
                    refine JL_store (vs := [_, _, _]) 4 ty36 rfl rfl rfl (AllOne.cons rfl (AllOne.cons rfl (AllOne.cons rfl AllOne.nil))) rfl (Nat.le_of_ble_eq_true rfl) ?_
                    refine JL_nil_up 74 [box _ _ [_, _], box _ _ [_, _, _], box _ _ [_, _], box _ _ [_, _, _], box _ _ [_, _, _], box _ _ [_, _], box _ _ [_, _, _], box _ _ [_, _, _]] [_, _, _, _, _, _, _, _, _, _, _, _, _, _, _, _] rfl rfl (by simp only [nrmF]; rfl) rfl rfl ?_
                    refine JE_nextA ?_
                    refine JA_end (by kernel_rfl) ?_
                    refine JE_block_normal ?_
                    refine JE_dropAt 7 ?_
                    refine JE_norm _ [box _ _ [_, _], box _ _ [_, _, _], box _ _ [_, _], box _ _ [_, _, _], box _ _ [_, _, _], box _ _ [_, _], box _ _ [_, _, _]] [_, _, _, _, _, _, _, _, _, _, _, _, _, _, _, _] rfl rfl rfl ?_
                    refine JE_dropAt 6 ?_
                    refine JE_norm _ [box _ _ [_, _], box _ _ [_, _, _], box _ _ [_, _], box _ _ [_, _, _], box _ _ [_, _, _], box _ _ [_, _]] [_, _, _, _, _, _, _, _, _, _, _, _, _, _, _, _] rfl rfl rfl ?_
                    refine JE_dropAt 5 ?_
                    refine JE_norm _ [box _ _ [_, _], box _ _ [_, _, _], box _ _ [_, _], box _ _ [_, _, _], box _ _ [_, _, _]] [_, _, _, _, _, _, _, _, _, _, _, _, _, _, _, _] rfl rfl rfl ?_
                    refine JE_midS (((opnR n l).getD i dP), some (shQ n l ((opnR n l).getD i dP).1 ((opnR n l).getD i dP).2), some (offQ (shQ n l ((opnR n l).getD i dP).1 ((opnR n l).getD i dP).2)), ad49, cp49, be49, ce49, ad5, c5, be5, e5) (by kernel_rfl) ?_ (by kernel_rfl) ?_
                    · first | exact bal_up hB (.inl (by omega)) | exact bal_up hB (.inr h66)
                    · exact subset_app (subset_cons (by repeat (first | with_reducible exact mm0 | refine mmS ?_)) (subset_cons (by repeat (first | with_reducible exact mm0 | refine mmS ?_)) (subset_cons (by repeat (first | with_reducible exact mm0 | refine mmS ?_)) (subset_cons (by repeat (first | with_reducible exact mm0 | refine mmS ?_)) subset_nil)))) (ssS (ssS (ssS (ssS (ssS (ssS (ssS (ssS ss0))))))))
                  · refine JL_store (vs := [_, _, _]) 3 ty36 rfl rfl rfl (AllOne.cons rfl (AllOne.cons rfl (AllOne.cons rfl AllOne.nil))) rfl (Nat.le_of_ble_eq_true rfl) ?_
                    refine JL_nil_up 74 [box _ _ [_, _], box _ _ [_, _, _], box _ _ [_, _], box _ _ [_, _, _], box _ _ [_, _, _], box _ _ [_, _], box _ _ [_, _, _], box _ _ [_, _, _]] [_, _, _, _, _, _, _, _, _, _, _, _, _, _, _, _] rfl rfl (by simp only [nrmF]; rfl) rfl rfl ?_
                    refine JE_nextA ?_
                    refine JA_step [2] (by kernel_rfl) (by simp) ⟨⟨_, rfl, ?_⟩, trivial⟩
                    refine JL_loadA (vs := [_, _, _]) 7 ty36 rfl rfl ⟨rfl, rfl, rfl, trivial⟩ ?_
                    refine JL_nil ?_
                    refine JE_nextA ?_
                    refine JA_step [5] (by kernel_rfl) (by simp) ⟨⟨_, rfl, ?_⟩, trivial⟩
                    refine JL_store (vs := [_, _, _]) 4 ty36 rfl rfl rfl (AllOne.cons rfl (AllOne.cons rfl (AllOne.cons rfl AllOne.nil))) rfl (Nat.le_of_ble_eq_true rfl) ?_
                    refine JL_nil_up 74 [box _ _ [_, _], box _ _ [_, _, _], box _ _ [_, _], box _ _ [_, _, _], box _ _ [_, _, _], box _ _ [_, _], box _ _ [_, _, _], box _ _ [_, _, _]] [_, _, _, _, _, _, _, _, _, _, _, _, _, _, _, _] rfl rfl (by simp only [nrmF]; rfl) rfl rfl ?_
                    refine JE_nextA ?_
                    refine JA_end (by kernel_rfl) ?_
                    refine JE_block_normal ?_
                    refine JE_dropAt 7 ?_
                    refine JE_norm _ [box _ _ [_, _], box _ _ [_, _, _], box _ _ [_, _], box _ _ [_, _, _], box _ _ [_, _, _], box _ _ [_, _], box _ _ [_, _, _]] [_, _, _, _, _, _, _, _, _, _, _, _, _, _, _, _] rfl rfl rfl ?_
                    refine JE_dropAt 6 ?_
                    refine JE_norm _ [box _ _ [_, _], box _ _ [_, _, _], box _ _ [_, _], box _ _ [_, _, _], box _ _ [_, _, _], box _ _ [_, _]] [_, _, _, _, _, _, _, _, _, _, _, _, _, _, _, _] rfl rfl rfl ?_
                    refine JE_dropAt 5 ?_
                    refine JE_norm _ [box _ _ [_, _], box _ _ [_, _, _], box _ _ [_, _], box _ _ [_, _, _], box _ _ [_, _, _]] [_, _, _, _, _, _, _, _, _, _, _, _, _, _, _, _] rfl rfl rfl ?_
                    refine JE_midS (((opnR n l).getD i dP), some (shQ n l ((opnR n l).getD i dP).1 ((opnR n l).getD i dP).2), some (offQ (shQ n l ((opnR n l).getD i dP).1 ((opnR n l).getD i dP).2)), ad49, cp49, be49, ce49, ad5, c5, be5, e5) (by kernel_rfl) ?_ (by kernel_rfl) ?_
                    · first | exact bal_up hB (.inl (by omega)) | exact bal_up hB (.inr h66)
                    · exact subset_app (subset_cons (by repeat (first | with_reducible exact mm0 | refine mmS ?_)) (subset_cons (by repeat (first | with_reducible exact mm0 | refine mmS ?_)) (subset_cons (by repeat (first | with_reducible exact mm0 | refine mmS ?_)) (subset_cons (by repeat (first | with_reducible exact mm0 | refine mmS ?_)) subset_nil)))) (ssS (ssS (ssS (ssS (ssS (ssS (ssS (ssS ss0))))))))
              · refine JL_loadA (vs := [_, _, _]) 7 ty36 rfl rfl ⟨rfl, rfl, rfl, trivial⟩ ?_
                refine JL_nil ?_
                refine JE_nextA ?_
                refine JA_step [1, 3] (by kernel_rfl) (by simp) ⟨⟨_, rfl, ?_⟩, ⟨_, rfl, ?_⟩, trivial⟩
                · refine JL_loadA (vs := [_, _, _]) 6 ty36 rfl rfl ⟨rfl, rfl, rfl, trivial⟩ ?_
                  refine JL_nil ?_
                  refine JE_nextA ?_
                  refine JA_step [3] (by kernel_rfl) (by simp) ⟨⟨_, rfl, ?_⟩, trivial⟩
                  refine JL_store (vs := [_, _]) 2 ty44 rfl rfl rfl (AllOne.cons rfl (AllOne.cons rfl AllOne.nil)) rfl (Nat.le_of_ble_eq_true rfl) ?_
                  refine JL_nil_up 74 [box _ _ [_, _], box _ _ [_, _, _], box _ _ [_, _], box _ _ [_, _, _], box _ _ [_, _, _], box _ _ [_, _], box _ _ [_, _, _], box _ _ [_, _, _]] [_, _, _, _, _, _, _, _, _, _, _, _, _, _, _, _] rfl rfl (by simp only [nrmF]; rfl) rfl rfl ?_
                  refine JE_nextA ?_
                  refine JA_step [4] (by kernel_rfl) (by simp) ⟨⟨_, rfl, ?_⟩, trivial⟩
                  refine JL_store (vs := [_, _, _]) 3 ty36 rfl rfl rfl (AllOne.cons rfl (AllOne.cons rfl (AllOne.cons rfl AllOne.nil))) rfl (Nat.le_of_ble_eq_true rfl) ?_
                  refine JL_nil_up 74 [box _ _ [_, _], box _ _ [_, _, _], box _ _ [_, _], box _ _ [_, _, _], box _ _ [_, _, _], box _ _ [_, _], box _ _ [_, _, _], box _ _ [_, _, _]] [_, _, _, _, _, _, _, _, _, _, _, _, _, _, _, _] rfl rfl (by simp only [nrmF]; rfl) rfl rfl ?_
                  refine JE_nextA ?_
                  refine JA_step [5] (by kernel_rfl) (by simp) ⟨⟨_, rfl, ?_⟩, trivial⟩
                  refine JL_store (vs := [_, _, _]) 4 ty36 rfl rfl rfl (AllOne.cons rfl (AllOne.cons rfl (AllOne.cons rfl AllOne.nil))) rfl (Nat.le_of_ble_eq_true rfl) ?_
                  refine JL_nil_up 74 [box _ _ [_, _], box _ _ [_, _, _], box _ _ [_, _], box _ _ [_, _, _], box _ _ [_, _, _], box _ _ [_, _], box _ _ [_, _, _], box _ _ [_, _, _]] [_, _, _, _, _, _, _, _, _, _, _, _, _, _, _, _] rfl rfl (by simp only [nrmF]; rfl) rfl rfl ?_
                  refine JE_nextA ?_
                  refine JA_end (by kernel_rfl) ?_
                  refine JE_block_normal ?_
                  refine JE_dropAt 7 ?_
                  refine JE_norm _ [box _ _ [_, _], box _ _ [_, _, _], box _ _ [_, _], box _ _ [_, _, _], box _ _ [_, _, _], box _ _ [_, _], box _ _ [_, _, _]] [_, _, _, _, _, _, _, _, _, _, _, _, _, _, _, _] rfl rfl rfl ?_
                  refine JE_dropAt 6 ?_
                  refine JE_norm _ [box _ _ [_, _], box _ _ [_, _, _], box _ _ [_, _], box _ _ [_, _, _], box _ _ [_, _, _], box _ _ [_, _]] [_, _, _, _, _, _, _, _, _, _, _, _, _, _, _, _] rfl rfl rfl ?_
                  refine JE_dropAt 5 ?_
                  refine JE_norm _ [box _ _ [_, _], box _ _ [_, _, _], box _ _ [_, _], box _ _ [_, _, _], box _ _ [_, _, _]] [_, _, _, _, _, _, _, _, _, _, _, _, _, _, _, _] rfl rfl rfl ?_
                  refine JE_midS (((opnR n l).getD i dP), some (shQ n l ((opnR n l).getD i dP).1 ((opnR n l).getD i dP).2), some (offQ (shQ n l ((opnR n l).getD i dP).1 ((opnR n l).getD i dP).2)), ad49, cp49, be49, ce49, ad5, c5, be5, e5) (by kernel_rfl) ?_ (by kernel_rfl) ?_
                  · first | exact bal_up hB (.inl (by omega)) | exact bal_up hB (.inr h66)
                  · exact subset_app (subset_cons (by repeat (first | with_reducible exact mm0 | refine mmS ?_)) (subset_cons (by repeat (first | with_reducible exact mm0 | refine mmS ?_)) (subset_cons (by repeat (first | with_reducible exact mm0 | refine mmS ?_)) (subset_cons (by repeat (first | with_reducible exact mm0 | refine mmS ?_)) subset_nil)))) (ssS (ssS (ssS (ssS (ssS (ssS (ssS (ssS ss0))))))))
                · refine JL_store (vs := [_, _]) 2 ty44 rfl rfl rfl (AllOne.cons rfl (AllOne.cons rfl AllOne.nil)) rfl (Nat.le_of_ble_eq_true rfl) ?_
                  refine JL_nil_up 74 [box _ _ [_, _], box _ _ [_, _, _], box _ _ [_, _], box _ _ [_, _, _], box _ _ [_, _, _], box _ _ [_, _], box _ _ [_, _, _], box _ _ [_, _, _]] [_, _, _, _, _, _, _, _, _, _, _, _, _, _, _, _] rfl rfl (by simp only [nrmF]; rfl) rfl rfl ?_
                  refine JE_nextA ?_
                  refine JA_step [1] (by kernel_rfl) (by simp) ⟨⟨_, rfl, ?_⟩, trivial⟩
                  refine JL_loadA (vs := [_, _, _]) 6 ty36 rfl rfl ⟨rfl, rfl, rfl, trivial⟩ ?_
                  refine JL_nil ?_
                  refine JE_nextA ?_
                  refine JA_step [4] (by kernel_rfl) (by simp) ⟨⟨_, rfl, ?_⟩, trivial⟩
                  refine JL_store (vs := [_, _, _]) 3 ty36 rfl rfl rfl (AllOne.cons rfl (AllOne.cons rfl (AllOne.cons rfl AllOne.nil))) rfl (Nat.le_of_ble_eq_true rfl) ?_
                  refine JL_nil_up 74 [box _ _ [_, _], box _ _ [_, _, _], box _ _ [_, _], box _ _ [_, _, _], box _ _ [_, _, _], box _ _ [_, _], box _ _ [_, _, _], box _ _ [_, _, _]] [_, _, _, _, _, _, _, _, _, _, _, _, _, _, _, _] rfl rfl (by simp only [nrmF]; rfl) rfl rfl ?_
                  refine JE_nextA ?_
                  refine JA_step [5] (by kernel_rfl) (by simp) ⟨⟨_, rfl, ?_⟩, trivial⟩
                  refine JL_store (vs := [_, _, _]) 4 ty36 rfl rfl rfl (AllOne.cons rfl (AllOne.cons rfl (AllOne.cons rfl AllOne.nil))) rfl (Nat.le_of_ble_eq_true rfl) ?_
                  refine JL_nil_up 74 [box _ _ [_, _], box _ _ [_, _, _], box _ _ [_, _], box _ _ [_, _, _], box _ _ [_, _, _], box _ _ [_, _], box _ _ [_, _, _], box _ _ [_, _, _]] [_, _, _, _, _, _, _, _, _, _, _, _, _, _, _, _] rfl rfl (by simp only [nrmF]; rfl) rfl rfl ?_
                  refine JE_nextA ?_
                  refine JA_end (by kernel_rfl) ?_
                  refine JE_block_normal ?_
                  refine JE_dropAt 7 ?_
                  refine JE_norm _ [box _ _ [_, _], box _ _ [_, _, _], box _ _ [_, _], box _ _ [_, _, _], box _ _ [_, _, _], box _ _ [_, _], box _ _ [_, _, _]] [_, _, _, _, _, _, _, _, _, _, _, _, _, _, _, _] rfl rfl rfl ?_
                  refine JE_dropAt 6 ?_
                  refine JE_norm _ [box _ _ [_, _], box _ _ [_, _, _], box _ _ [_, _], box _ _ [_, _, _], box _ _ [_, _, _], box _ _ [_, _]] [_, _, _, _, _, _, _, _, _, _, _, _, _, _, _, _] rfl rfl rfl ?_
                  refine JE_dropAt 5 ?_
                  refine JE_norm _ [box _ _ [_, _], box _ _ [_, _, _], box _ _ [_, _], box _ _ [_, _, _], box _ _ [_, _, _]] [_, _, _, _, _, _, _, _, _, _, _, _, _, _, _, _] rfl rfl rfl ?_
                  refine JE_midS (((opnR n l).getD i dP), some (shQ n l ((opnR n l).getD i dP).1 ((opnR n l).getD i dP).2), some (offQ (shQ n l ((opnR n l).getD i dP).1 ((opnR n l).getD i dP).2)), ad49, cp49, be49, ce49, ad5, c5, be5, e5) (by kernel_rfl) ?_ (by kernel_rfl) ?_
                  · first | exact bal_up hB (.inl (by omega)) | exact bal_up hB (.inr h66)
                  · exact subset_app (subset_cons (by repeat (first | with_reducible exact mm0 | refine mmS ?_)) (subset_cons (by repeat (first | with_reducible exact mm0 | refine mmS ?_)) (subset_cons (by repeat (first | with_reducible exact mm0 | refine mmS ?_)) (subset_cons (by repeat (first | with_reducible exact mm0 | refine mmS ?_)) subset_nil)))) (ssS (ssS (ssS (ssS (ssS (ssS (ssS (ssS ss0))))))))
              · refine JL_store (vs := [_, _]) 2 ty44 rfl rfl rfl (AllOne.cons rfl (AllOne.cons rfl AllOne.nil)) rfl (Nat.le_of_ble_eq_true rfl) ?_
                refine JL_nil_up 74 [box _ _ [_, _], box _ _ [_, _, _], box _ _ [_, _], box _ _ [_, _, _], box _ _ [_, _, _], box _ _ [_, _], box _ _ [_, _, _], box _ _ [_, _, _]] [_, _, _, _, _, _, _, _, _, _, _, _, _, _, _, _] rfl rfl (by simp only [nrmF]; rfl) rfl rfl ?_
                refine JE_nextA ?_
                refine JA_step [1, 2] (by kernel_rfl) (by simp) ⟨⟨_, rfl, ?_⟩, ⟨_, rfl, ?_⟩, trivial⟩
                · refine JL_loadA (vs := [_, _, _]) 6 ty36 rfl rfl ⟨rfl, rfl, rfl, trivial⟩ ?_
                  refine JL_nil ?_
                  refine JE_nextA ?_
                  refine JA_step [2, 4] (by kernel_rfl) (by simp) ⟨⟨_, rfl, ?_⟩, ⟨_, rfl, ?_⟩, trivial⟩
                  · refine JL_loadA (vs := [_, _, _]) 7 ty36 rfl rfl ⟨rfl, rfl, rfl, trivial⟩ ?_
                    refine JL_nil ?_
                    refine JE_nextA ?_
                    refine JA_step [4] (by kernel_rfl) (by simp) ⟨⟨_, rfl, ?_⟩, trivial⟩
                    refine JL_store (vs := [_, _, _]) 3 ty36 rfl rfl rfl (AllOne.cons rfl (AllOne.cons rfl (AllOne.cons rfl AllOne.nil))) rfl (Nat.le_of_ble_eq_true rfl) ?_
                    refine JL_nil_up 74 [box _ _ [_, _], box _ _ [_, _, _], box _ _ [_, _], box _ _ [_, _, _], box _ _ [_, _, _], box _ _ [_, _], box _ _ [_, _, _], box _ _ [_, _, _]] [_, _, _, _, _, _, _, _, _, _, _, _, _, _, _, _] rfl rfl (by simp only [nrmF]; rfl) rfl rfl ?_
                    refine JE_nextA ?_
                    refine JA_step [5] (by kernel_rfl) (by simp) ⟨⟨_, rfl, ?_⟩, trivial⟩
                    refine JL_store (vs := [_, _, _]) 4 ty36 rfl rfl rfl (AllOne.cons rfl (AllOne.cons rfl (AllOne.cons rfl AllOne.nil))) rfl (Nat.le_of_ble_eq_true rfl) ?_
                    refine JL_nil_up 74 [box _ _ [_, _], box _ _ [_, _, _], box _ _ [_, _], box _ _ [_, _, _], box _ _ [_, _, _], box _ _ [_, _], box _ _ [_, _, _], box _ _ [_, _, _]] [_, _, _, _, _, _, _, _, _, _, _, _, _, _, _, _] rfl rfl (by simp only [nrmF]; rfl) rfl rfl ?_
                    refine JE_nextA ?_
                    refine JA_end (by kernel_rfl) ?_
                    refine JE_block_normal ?_
                    refine JE_dropAt 7 ?_
                    refine JE_norm _ [box _ _ [_, _], box _ _ [_, _, _], box _ _ [_, _], box _ _ [_, _, _], box _ _ [_, _, _], box _ _ [_, _], box _ _ [_, _, _]] [_, _, _, _, _, _, _, _, _, _, _, _, _, _, _, _] rfl rfl rfl ?_
                    refine JE_dropAt 6 ?_
                    refine JE_norm _ [box _ _ [_, _], box _ _ [_, _, _], box _ _ [_, _], box _ _ [_, _, _], box _ _ [_, _, _], box _ _ [_, _]] [_, _, _, _, _, _, _, _, _, _, _, _, _, _, _, _] rfl rfl rfl ?_
                    refine JE_dropAt 5 ?_
                    refine JE_norm _ [box _ _ [_, _], box _ _ [_, _, _], box _ _ [_, _], box _ _ [_, _, _], box _ _ [_, _, _]] [_, _, _, _, _, _, _, _, _, _, _, _, _, _, _, _] rfl rfl rfl ?_
                    refine JE_midS (((opnR n l).getD i dP), some (shQ n l ((opnR n l).getD i dP).1 ((opnR n l).getD i dP).2), some (offQ (shQ n l ((opnR n l).getD i dP).1 ((opnR n l).getD i dP).2)), ad49, cp49, be49, ce49, ad5, c5, be5, e5) (by kernel_rfl) ?_ (by kernel_rfl) ?_
                    · first | exact bal_up hB (.inl (by omega)) | exact bal_up hB (.inr h66)
                    · exact subset_app (subset_cons (by repeat (first | with_reducible exact mm0 | refine mmS ?_)) (subset_cons (by repeat (first | with_reducible exact mm0 | refine mmS ?_)) (subset_cons (by repeat (first | with_reducible exact mm0 | refine mmS ?_)) (subset_cons (by repeat (first | with_reducible exact mm0 | refine mmS ?_)) subset_nil)))) (ssS (ssS (ssS (ssS (ssS (ssS (ssS (ssS ss0))))))))
                  · refine JL_store (vs := [_, _, _]) 3 ty36 rfl rfl rfl (AllOne.cons rfl (AllOne.cons rfl (AllOne.cons rfl AllOne.nil))) rfl (Nat.le_of_ble_eq_true rfl) ?_
                    refine JL_nil_up 74 [box _ _ [_, _], box _ _ [_, _, _], box _ _ [_, _], box _ _ [_, _, _], box _ _ [_, _, _], box _ _ [_, _], box _ _ [_, _, _], box _ _ [_, _, _]] [_, _, _, _, _, _, _, _, _, _, _, _, _, _, _, _] rfl rfl (by simp only [nrmF]; rfl) rfl rfl ?_
                    refine JE_nextA ?_
                    refine JA_step [2] (by kernel_rfl) (by simp) ⟨⟨_, rfl, ?_⟩, trivial⟩
                    refine JL_loadA (vs := [_, _, _]) 7 ty36 rfl rfl ⟨rfl, rfl, rfl, trivial⟩ ?_
                    refine JL_nil ?_
                    refine JE_nextA ?_
                    refine JA_step [5] (by kernel_rfl) (by simp) ⟨⟨_, rfl, ?_⟩, trivial⟩
                    refine JL_store (vs := [_, _, _]) 4 ty36 rfl rfl rfl (AllOne.cons rfl (AllOne.cons rfl (AllOne.cons rfl AllOne.nil))) rfl (Nat.le_of_ble_eq_true rfl) ?_
                    refine JL_nil_up 74 [box _ _ [_, _], box _ _ [_, _, _], box _ _ [_, _], box _ _ [_, _, _], box _ _ [_, _, _], box _ _ [_, _], box _ _ [_, _, _], box _ _ [_, _, _]] [_, _, _, _, _, _, _, _, _, _, _, _, _, _, _, _] rfl rfl (by simp only [nrmF]; rfl) rfl rfl ?_
                    refine JE_nextA ?_
                    refine JA_end (by kernel_rfl) ?_
                    refine JE_block_normal ?_
                    refine JE_dropAt 7 ?_
                    refine JE_norm _ [box _ _ [_, _], box _ _ [_, _, _], box _ _ [_, _], box _ _ [_, _, _], box _ _ [_, _, _], box _ _ [_, _], box _ _ [_, _, _]] [_, _, _, _, _, _, _, _, _, _, _, _, _, _, _, _] rfl rfl rfl ?_
                    refine JE_dropAt 6 ?_
                    refine JE_norm _ [box _ _ [_, _], box _ _ [_, _, _], box _ _ [_, _], box _ _ [_, _, _], box _ _ [_, _, _], box _ _ [_, _]] [_, _, _, _, _, _, _, _, _, _, _, _, _, _, _, _] rfl rfl rfl ?_
                    refine JE_dropAt 5 ?_
                    refine JE_norm _ [box _ _ [_, _], box _ _ [_, _, _], box _ _ [_, _], box _ _ [_, _, _], box _ _ [_, _, _]] [_, _, _, _, _, _, _, _, _, _, _, _, _, _, _, _] rfl rfl rfl ?_
                    refine JE_midS (((opnR n l).getD i dP), some (shQ n l ((opnR n l).getD i dP).1 ((opnR n l).getD i dP).2), some (offQ (shQ n l ((opnR n l).getD i dP).1 ((opnR n l).getD i dP).2)), ad49, cp49, be49, ce49, ad5, c5, be5, e5) (by kernel_rfl) ?_ (by kernel_rfl) ?_
                    · first | exact bal_up hB (.inl (by omega)) | exact bal_up hB (.inr h66)
                    · exact subset_app (subset_cons (by repeat (first | with_reducible exact mm0 | refine mmS ?_)) (subset_cons (by repeat (first | with_reducible exact mm0 | refine mmS ?_)) (subset_cons (by repeat (first | with_reducible exact mm0 | refine mmS ?_)) (subset_cons (by repeat (first | with_reducible exact mm0 | refine mmS ?_)) subset_nil)))) (ssS (ssS (ssS (ssS (ssS (ssS (ssS (ssS ss0))))))))
                · refine JL_loadA (vs := [_, _, _]) 7 ty36 rfl rfl ⟨rfl, rfl, rfl, trivial⟩ ?_
                  refine JL_nil ?_
                  refine JE_nextA ?_
                  refine JA_step [1] (by kernel_rfl) (by simp) ⟨⟨_, rfl, ?_⟩, trivial⟩
                  refine JL_loadA (vs := [_, _, _]) 6 ty36 rfl rfl ⟨rfl, rfl, rfl, trivial⟩ ?_
                  refine JL_nil ?_
                  refine JE_nextA ?_
                  refine JA_step [4] (by kernel_rfl) (by simp) ⟨⟨_, rfl, ?_⟩, trivial⟩
                  refine JL_store (vs := [_, _, _]) 3 ty36 rfl rfl rfl (AllOne.cons rfl (AllOne.cons rfl (AllOne.cons rfl AllOne.nil))) rfl (Nat.le_of_ble_eq_true rfl) ?_
                  refine JL_nil_up 74 [box _ _ [_, _], box _ _ [_, _, _], box _ _ [_, _], box _ _ [_, _, _], box _ _ [_, _, _], box _ _ [_, _], box _ _ [_, _, _], box _ _ [_, _, _]] [_, _, _, _, _, _, _, _, _, _, _, _, _, _, _, _] rfl rfl (by simp only [nrmF]; rfl) rfl rfl ?_
                  refine JE_nextA ?_
                  refine JA_step [5] (by kernel_rfl) (by simp) ⟨⟨_, rfl, ?_⟩, trivial⟩
                  refine JL_store (vs := [_, _, _]) 4 ty36 rfl rfl rfl (AllOne.cons rfl (AllOne.cons rfl (AllOne.cons rfl AllOne.nil))) rfl (Nat.le_of_ble_eq_true rfl) ?_
                  refine JL_nil_up 74 [box _ _ [_, _], box _ _ [_, _, _], box _ _ [_, _], box _ _ [_, _, _], box _ _ [_, _, _], box _ _ [_, _], box _ _ [_, _, _], box _ _ [_, _, _]] [_, _, _, _, _, _, _, _, _, _, _, _, _, _, _, _] rfl rfl (by simp only [nrmF]; rfl) rfl rfl ?_
                  refine JE_nextA ?_
                  refine JA_end (by kernel_rfl) ?_
                  refine JE_block_normal ?_
                  refine JE_dropAt 7 ?_
                  refine JE_norm _ [box _ _ [_, _], box _ _ [_, _, _], box _ _ [_, _], box _ _ [_, _, _], box _ _ [_, _, _], box _ _ [_, _], box _ _ [_, _, _]] [_, _, _, _, _, _, _, _, _, _, _, _, _, _, _, _] rfl rfl rfl ?_
                  refine JE_dropAt 6 ?_
                  refine JE_norm _ [box _ _ [_, _], box _ _ [_, _, _], box _ _ [_, _], box _ _ [_, _, _], box _ _ [_, _, _], box _ _ [_, _]] [_, _, _, _, _, _, _, _, _, _, _, _, _, _, _, _] rfl rfl rfl ?_
                  refine JE_dropAt 5 ?_
                  refine JE_norm _ [box _ _ [_, _], box _ _ [_, _, _], box _ _ [_, _], box _ _ [_, _, _], box _ _ [_, _, _]] [_, _, _, _, _, _, _, _, _, _, _, _, _, _, _, _] rfl rfl rfl ?_
                  refine JE_midS (((opnR n l).getD i dP), some (shQ n l ((opnR n l).getD i dP).1 ((opnR n l).getD i dP).2), some (offQ (shQ n l ((opnR n l).getD i dP).1 ((opnR n l).getD i dP).2)), ad49, cp49, be49, ce49, ad5, c5, be5, e5) (by kernel_rfl) ?_ (by kernel_rfl) ?_
                  · first | exact bal_up hB (.inl (by omega)) | exact bal_up hB (.inr h66)
                  · exact subset_app (subset_cons (by repeat (first | with_reducible exact mm0 | refine mmS ?_)) (subset_cons (by repeat (first | with_reducible exact mm0 | refine mmS ?_)) (subset_cons (by repeat (first | with_reducible exact mm0 | refine mmS ?_)) (subset_cons (by repeat (first | with_reducible exact mm0 | refine mmS ?_)) subset_nil)))) (ssS (ssS (ssS (ssS (ssS (ssS (ssS (ssS ss0))))))))
            · refine JL_loadA (vs := [_, _, _]) 6 ty36 rfl rfl ⟨rfl, rfl, rfl, trivial⟩ ?_
              refine JL_nil ?_
              refine JE_nextA ?_
              refine JA_step [0, 2] (by kernel_rfl) (by simp) ⟨⟨_, rfl, ?_⟩, ⟨_, rfl, ?_⟩, trivial⟩
              · refine JL_loadA (vs := [_, _]) 5 ty44 rfl rfl ⟨rfl, rfl, trivial⟩ ?_
                refine JL_nil ?_
                refine JE_nextA ?_
                refine JA_step [2, 3] (by kernel_rfl) (by simp) ⟨⟨_, rfl, ?_⟩, ⟨_, rfl, ?_⟩, trivial⟩
                · refine JL_loadA (vs := [_, _, _]) 7 ty36 rfl rfl ⟨rfl, rfl, rfl, trivial⟩ ?_
                  refine JL_nil ?_
                  refine JE_nextA ?_
                  refine JA_step [3] (by kernel_rfl) (by simp) ⟨⟨_, rfl, ?_⟩, trivial⟩
                  refine JL_store (vs := [_, _]) 2 ty44 rfl rfl rfl (AllOne.cons rfl (AllOne.cons rfl AllOne.nil)) rfl (Nat.le_of_ble_eq_true rfl) ?_
                  refine JL_nil_up 74 [box _ _ [_, _], box _ _ [_, _, _], box _ _ [_, _], box _ _ [_, _, _], box _ _ [_, _, _], box _ _ [_, _], box _ _ [_, _, _], box _ _ [_, _, _]] [_, _, _, _, _, _, _, _, _, _, _, _, _, _, _, _] rfl rfl (by simp only [nrmF]; rfl) rfl rfl ?_
                  refine JE_nextA ?_
                  refine JA_step [4] (by kernel_rfl) (by simp) ⟨⟨_, rfl, ?_⟩, trivial⟩
                  refine JL_store (vs := [_, _, _]) 3 ty36 rfl rfl rfl (AllOne.cons rfl (AllOne.cons rfl (AllOne.cons rfl AllOne.nil))) rfl (Nat.le_of_ble_eq_true rfl) ?_
                  refine JL_nil_up 74 [box _ _ [_, _], box _ _ [_, _, _], box _ _ [_, _], box _ _ [_, _, _], box _ _ [_, _, _], box _ _ [_, _], box _ _ [_, _, _], box _ _ [_, _, _]] [_, _, _, _, _, _, _, _, _, _, _, _, _, _, _, _] rfl rfl (by simp only [nrmF]; rfl) rfl rfl ?_
                  refine JE_nextA ?_
                  refine JA_step [5] (by kernel_rfl) (by simp) ⟨⟨_, rfl, ?_⟩, trivial⟩
                  refine JL_store (vs := [_, _, _]) 4 ty36 rfl rfl rfl (AllOne.cons rfl (AllOne.cons rfl (AllOne.cons rfl AllOne.nil))) rfl (Nat.le_of_ble_eq_true rfl) ?_
                  refine JL_nil_up 74 [box _ _ [_, _], box _ _ [_, _, _], box _ _ [_, _], box _ _ [_, _, _], box _ _ [_, _, _], box _ _ [_, _], box _ _ [_, _, _], box _ _ [_, _, _]] [_, _, _, _, _, _, _, _, _, _, _, _, _, _, _, _] rfl rfl (by simp only [nrmF]; rfl) rfl rfl ?_
                  refine JE_nextA ?_
                  refine JA_end (by kernel_rfl) ?_
                  refine JE_block_normal ?_
                  refine JE_dropAt 7 ?_
                  refine JE_norm _ [box _ _ [_, _], box _ _ [_, _, _], box _ _ [_, _], box _ _ [_, _, _], box _ _ [_, _, _], box _ _ [_, _], box _ _ [_, _, _]] [_, _, _, _, _, _, _, _, _, _, _, _, _, _, _, _] rfl rfl rfl ?_
                  refine JE_dropAt 6 ?_
                  refine JE_norm _ [box _ _ [_, _], box _ _ [_, _, _], box _ _ [_, _], box _ _ [_, _, _], box _ _ [_, _, _], box _ _ [_, _]] [_, _, _, _, _, _, _, _, _, _, _, _, _, _, _, _] rfl rfl rfl ?_
                  refine JE_dropAt 5 ?_
                  refine JE_norm _ [box _ _ [_, _], box _ _ [_, _, _], box _ _ [_, _], box _ _ [_, _, _], box _ _ [_, _, _]] [_, _, _, _, _, _, _, _, _, _, _, _, _, _, _, _] rfl rfl rfl ?_
                  refine JE_midS (((opnR n l).getD i dP), some (shQ n l ((opnR n l).getD i dP).1 ((opnR n l).getD i dP).2), some (offQ (shQ n l ((opnR n l).getD i dP).1 ((opnR n l).getD i dP).2)), ad49, cp49, be49, ce49, ad5, c5, be5, e5) (by kernel_rfl) ?_ (by kernel_rfl) ?_
                  · first | exact bal_up hB (.inl (by omega)) | exact bal_up hB (.inr h66)
                  · exact subset_app (subset_cons (by repeat (first | with_reducible exact mm0 | refine mmS ?_)) (subset_cons (by repeat (first | with_reducible exact mm0 | refine mmS ?_)) (subset_cons (by repeat (first | with_reducible exact mm0 | refine mmS ?_)) (subset_cons (by repeat (first | with_reducible exact mm0 | refine mmS ?_)) subset_nil)))) (ssS (ssS (ssS (ssS (ssS (ssS (ssS (ssS ss0))))))))
                · refine JL_store (vs := [_, _]) 2 ty44 rfl rfl rfl (AllOne.cons rfl (AllOne.cons rfl AllOne.nil)) rfl (Nat.le_of_ble_eq_true rfl) ?_
                  refine JL_nil_up 74 [box _ _ [_, _], box _ _ [_, _, _], box _ _ [_, _], box _ _ [_, _, _], box _ _ [_, _, _], box _ _ [_, _], box _ _ [_, _, _], box _ _ [_, _, _]] [_, _, _, _, _, _, _, _, _, _, _, _, _, _, _, _] rfl rfl (by simp only [nrmF]; rfl) rfl rfl ?_
                  refine JE_nextA ?_
                  refine JA_step [2, 4] (by kernel_rfl) (by simp) ⟨⟨_, rfl, ?_⟩, ⟨_, rfl, ?_⟩, trivial⟩
                  · refine JL_loadA (vs := [_, _, _]) 7 ty36 rfl rfl ⟨rfl, rfl, rfl, trivial⟩ ?_
                    refine JL_nil ?_
                    refine JE_nextA ?_
                    refine JA_step [4] (by kernel_rfl) (by simp) ⟨⟨_, rfl, ?_⟩, trivial⟩
                    refine JL_store (vs := [_, _, _]) 3 ty36 rfl rfl rfl (AllOne.cons rfl (AllOne.cons rfl (AllOne.cons rfl AllOne.nil))) rfl (Nat.le_of_ble_eq_true rfl) ?_
                    refine JL_nil_up 74 [box _ _ [_, _], box _ _ [_, _, _], box _ _ [_, _], box _ _ [_, _, _], box _ _ [_, _, _], box _ _ [_, _], box _ _ [_, _, _], box _ _ [_, _, _]] [_, _, _, _, _, _, _, _, _, _, _, _, _, _, _, _] rfl rfl (by simp only [nrmF]; rfl) rfl rfl ?_
                    refine JE_nextA ?_
                    refine JA_step [5] (by kernel_rfl) (by simp) ⟨⟨_, rfl, ?_⟩, trivial⟩
                    refine JL_store (vs := [_, _, _]) 4 ty36 rfl rfl rfl (AllOne.cons rfl (AllOne.cons rfl (AllOne.cons rfl AllOne.nil))) rfl (Nat.le_of_ble_eq_true rfl) ?_
                    refine JL_nil_up 74 [box _ _ [_, _], box _ _ [_, _, _], box _ _ [_, _], box _ _ [_, _, _], box _ _ [_, _, _], box _ _ [_, _], box _ _ [_, _, _], box _ _ [_, _, _]] [_, _, _, _, _, _, _, _, _, _, _, _, _, _, _, _] rfl rfl (by simp only [nrmF]; rfl) rfl rfl ?_
                    refine JE_nextA ?_
                    refine JA_end (by kernel_rfl) ?_
                    refine JE_block_normal ?_
                    refine JE_dropAt 7 ?_
                    refine JE_norm _ [box _ _ [_, _], box _ _ [_, _, _], box _ _ [_, _], box _ _ [_, _, _], box _ _ [_, _, _], box _ _ [_, _], box _ _ [_, _, _]] [_, _, _, _, _, _, _, _, _, _, _, _, _, _, _, _] rfl rfl rfl ?_
                    refine JE_dropAt 6 ?_
                    refine JE_norm _ [box _ _ [_, _], box _ _ [_, _, _], box _ _ [_, _], box _ _ [_, _, _], box _ _ [_, _, _], box _ _ [_, _]] [_, _, _, _, _, _, _, _, _, _, _, _, _, _, _, _] rfl rfl rfl ?_
                    refine JE_dropAt 5 ?_
                    refine JE_norm _ [box _ _ [_, _], box _ _ [_, _, _], box _ _ [_, _], box _ _ [_, _, _], box _ _ [_, _, _]] [_, _, _, _, _, _, _, _, _, _, _, _, _, _, _, _] rfl rfl rfl ?_
                    refine JE_midS (((opnR n l).getD i dP), some (shQ n l ((opnR n l).getD i dP).1 ((opnR n l).getD i dP).2), some (offQ (shQ n l ((opnR n l).getD i dP).1 ((opnR n l).getD i dP).2)), ad49, cp49, be49, ce49, ad5, c5, be5, e5) (by kernel_rfl) ?_ (by kernel_rfl) ?_
                    · first | exact bal_up hB (.inl (by omega)) | exact bal_up hB (.inr h66)
                    · exact subset_app (subset_cons (by repeat (first | with_reducible exact mm0 | refine mmS ?_)) (subset_cons (by repeat (first | with_reducible exact mm0 | refine mmS ?_)) (subset_cons (by repeat (first | with_reducible exact mm0 | refine mmS ?_)) (subset_cons (by repeat (first | with_reducible exact mm0 | refine mmS ?_)) subset_nil)))) (ssS (ssS (ssS (ssS (ssS (ssS (ssS (ssS ss0))))))))
                  · refine JL_store (vs := [_, _, _]) 3 ty36 rfl rfl rfl (AllOne.cons rfl (AllOne.cons rfl (AllOne.cons rfl AllOne.nil))) rfl (Nat.le_of_ble_eq_true rfl) ?_
                    refine JL_nil_up 74 [box _ _ [_, _], box _ _ [_, _, _], box _ _ [_, _], box _ _ [_, _, _], box _ _ [_, _, _], box _ _ [_, _], box _ _ [_, _, _], box _ _ [_, _, _]] [_, _, _, _, _, _, _, _, _, _, _, _, _, _, _, _] rfl rfl (by simp only [nrmF]; rfl) rfl rfl ?_
                    refine JE_nextA ?_
                    refine JA_step [2] (by kernel_rfl) (by simp) ⟨⟨_, rfl, ?_⟩, trivial⟩
                    refine JL_loadA (vs := [_, _, _]) 7 ty36 rfl rfl ⟨rfl, rfl, rfl, trivial⟩ ?_
                    refine JL_nil ?_
                    refine JE_nextA ?_
                    refine JA_step [5] (by kernel_rfl) (by simp) ⟨⟨_, rfl, ?_⟩, trivial⟩
                    refine JL_store (vs := [_, _, _]) 4 ty36 rfl rfl rfl (AllOne.cons rfl (AllOne.cons rfl (AllOne.cons rfl AllOne.nil))) rfl (Nat.le_of_ble_eq_true rfl) ?_
                    refine JL_nil_up 74 [box _ _ [_, _], box _ _ [_, _, _], box _ _ [_, _], box _ _ [_, _, _], box _ _ [_, _, _], box _ _ [_, _], box _ _ [_, _, _], box _ _ [_, _, _]] [_, _, _, _, _, _, _, _, _, _, _, _, _, _, _, _] rfl rfl (by simp only [nrmF]; rfl) rfl rfl ?_
                    refine JE_nextA ?_
                    refine JA_end (by kernel_rfl) ?_
                    refine JE_block_normal ?_
                    refine JE_dropAt 7 ?_
                    refine JE_norm _ [box _ _ [_, _], box _ _ [_, _, _], box _ _ [_, _], box _ _ [_, _, _], box _ _ [_, _, _], box _ _ [_, _], box _ _ [_, _, _]] [_, _, _, _, _, _, _, _, _, _, _, _, _, _, _, _] rfl rfl rfl ?_
                    refine JE_dropAt 6 ?_
                    refine JE_norm _ [box _ _ [_, _], box _ _ [_, _, _], box _ _ [_, _], box _ _ [_, _, _], box _ _ [_, _, _], box _ _ [_, _]] [_, _, _, _, _, _, _, _, _, _, _, _, _, _, _, _] rfl rfl rfl ?_
                    refine JE_dropAt 5 ?_
                    refine JE_norm _ [box _ _ [_, _], box _ _ [_, _, _], box _ _ [_, _], box _ _ [_, _, _], box _ _ [_, _, _]] [_, _, _, _, _, _, _, _, _, _, _, _, _, _, _, _] rfl rfl rfl ?_
                    refine JE_midS (((opnR n l).getD i dP), some (shQ n l ((opnR n l).getD i dP).1 ((opnR n l).getD i dP).2), some (offQ (shQ n l ((opnR n l).getD i dP).1 ((opnR n l).getD i dP).2)), ad49, cp49, be49, ce49, ad5, c5, be5, e5) (by kernel_rfl) ?_ (by kernel_rfl) ?_
                    · first | exact bal_up hB (.inl (by omega)) | exact bal_up hB (.inr h66)
                    · exact subset_app (subset_cons (by repeat (first | with_reducible exact mm0 | refine mmS ?_)) (subset_cons (by repeat (first | with_reducible exact mm0 | refine mmS ?_)) (subset_cons (by repeat (first | with_reducible exact mm0 | refine mmS ?_)) (subset_cons (by repeat (first | with_reducible exact mm0 | refine mmS ?_)) subset_nil)))) (ssS (ssS (ssS (ssS (ssS (ssS (ssS (ssS ss0))))))))
              · refine JL_loadA (vs := [_, _, _]) 7 ty36 rfl rfl ⟨rfl, rfl, rfl, trivial⟩ ?_
                refine JL_nil ?_
                refine JE_nextA ?_
                refine JA_step [0] (by kernel_rfl) (by simp) ⟨⟨_, rfl, ?_⟩, trivial⟩
                refine JL_loadA (vs := [_, _]) 5 ty44 rfl rfl ⟨rfl, rfl, trivial⟩ ?_
                refine JL_nil ?_
                refine JE_nextA ?_
                refine JA_step [3] (by kernel_rfl) (by simp) ⟨⟨_, rfl, ?_⟩, trivial⟩
                refine JL_store (vs := [_, _]) 2 ty44 rfl rfl rfl (AllOne.cons rfl (AllOne.cons rfl AllOne.nil)) rfl (Nat.le_of_ble_eq_true rfl) ?_
                refine JL_nil_up 74 [box _ _ [_, _], box _ _ [_, _, _], box _ _ [_, _], box _ _ [_, _, _], box _ _ [_, _, _], box _ _ [_, _], box _ _ [_, _, _], box _ _ [_, _, _]] [_, _, _, _, _, _, _, _, _, _, _, _, _, _, _, _] rfl rfl (by simp only [nrmF]; rfl) rfl rfl ?_
                refine JE_nextA ?_
                refine JA_step [4] (by kernel_rfl) (by simp) ⟨⟨_, rfl, ?_⟩, trivial⟩
                refine JL_store (vs := [_, _, _]) 3 ty36 rfl rfl rfl (AllOne.cons rfl (AllOne.cons rfl (AllOne.cons rfl AllOne.nil))) rfl (Nat.le_of_ble_eq_true rfl) ?_
                refine JL_nil_up 74 [box _ _ [_, _], box _ _ [_, _, _], box _ _ [_, _], box _ _ [_, _, _], box _ _ [_, _, _], box _ _ [_, _], box _ _ [_, _, _], box _ _ [_, _, _]] [_, _, _, _, _, _, _, _, _, _, _, _, _, _, _, _] rfl rfl (by simp only [nrmF]; rfl) rfl rfl ?_
                refine JE_nextA ?_
                refine JA_step [5] (by kernel_rfl) (by simp) ⟨⟨_, rfl, ?_⟩, trivial⟩
                refine JL_store (vs := [_, _, _]) 4 ty36 rfl rfl rfl (AllOne.cons rfl (AllOne.cons rfl (AllOne.cons rfl AllOne.nil))) rfl (Nat.le_of_ble_eq_true rfl) ?_
                refine JL_nil_up 74 [box _ _ [_, _], box _ _ [_, _, _], box _ _ [_, _], box _ _ [_, _, _], box _ _ [_, _, _], box _ _ [_, _], box _ _ [_, _, _], box _ _ [_, _, _]] [_, _, _, _, _, _, _, _, _, _, _, _, _, _, _, _] rfl rfl (by simp only [nrmF]; rfl) rfl rfl ?_
                refine JE_nextA ?_
                refine JA_end (by kernel_rfl) ?_
                refine JE_block_normal ?_
                refine JE_dropAt 7 ?_
                refine JE_norm _ [box _ _ [_, _], box _ _ [_, _, _], box _ _ [_, _], box _ _ [_, _, _], box _ _ [_, _, _], box _ _ [_, _], box _ _ [_, _, _]] [_, _, _, _, _, _, _, _, _, _, _, _, _, _, _, _] rfl rfl rfl ?_
                refine JE_dropAt 6 ?_
                refine JE_norm _ [box _ _ [_, _], box _ _ [_, _, _], box _ _ [_, _], box _ _ [_, _, _], box _ _ [_, _, _], box _ _ [_, _]] [_, _, _, _, _, _, _, _, _, _, _, _, _, _, _, _] rfl rfl rfl ?_
                refine JE_dropAt 5 ?_
                refine JE_norm _ [box _ _ [_, _], box _ _ [_, _, _], box _ _ [_, _], box _ _ [_, _, _], box _ _ [_, _, _]] [_, _, _, _, _, _, _, _, _, _, _, _, _, _, _, _] rfl rfl rfl ?_
                refine JE_midS (((opnR n l).getD i dP), some (shQ n l ((opnR n l).getD i dP).1 ((opnR n l).getD i dP).2), some (offQ (shQ n l ((opnR n l).getD i dP).1 ((opnR n l).getD i dP).2)), ad49, cp49, be49, ce49, ad5, c5, be5, e5) (by kernel_rfl) ?_ (by kernel_rfl) ?_
                · first | exact bal_up hB (.inl (by omega)) | exact bal_up hB (.inr h66)
                · exact subset_app (subset_cons (by repeat (first | with_reducible exact mm0 | refine mmS ?_)) (subset_cons (by repeat (first | with_reducible exact mm0 | refine mmS ?_)) (subset_cons (by repeat (first | with_reducible exact mm0 | refine mmS ?_)) (subset_cons (by repeat (first | with_reducible exact mm0 | refine mmS ?_)) subset_nil)))) (ssS (ssS (ssS (ssS (ssS (ssS (ssS (ssS ss0))))))))
            · refine JL_loadA (vs := [_, _, _]) 7 ty36 rfl rfl ⟨rfl, rfl, rfl, trivial⟩ ?_
              refine JL_nil ?_
              refine JE_nextA ?_
              refine JA_step [0, 1] (by kernel_rfl) (by simp) ⟨⟨_, rfl, ?_⟩, ⟨_, rfl, ?_⟩, trivial⟩
              · refine JL_loadA (vs := [_, _]) 5 ty44 rfl rfl ⟨rfl, rfl, trivial⟩ ?_
                refine JL_nil ?_
                refine JE_nextA ?_
                refine JA_step [1, 3] (by kernel_rfl) (by simp) ⟨⟨_, rfl, ?_⟩, ⟨_, rfl, ?_⟩, trivial⟩
                · refine JL_loadA (vs := [_, _, _]) 6 ty36 rfl rfl ⟨rfl, rfl, rfl, trivial⟩ ?_
                  refine JL_nil ?_
                  refine JE_nextA ?_
                  refine JA_step [3] (by kernel_rfl) (by simp) ⟨⟨_, rfl, ?_⟩, trivial⟩
                  refine JL_store (vs := [_, _]) 2 ty44 rfl rfl rfl (AllOne.cons rfl (AllOne.cons rfl AllOne.nil)) rfl (Nat.le_of_ble_eq_true rfl) ?_
                  refine JL_nil_up 74 [box _ _ [_, _], box _ _ [_, _, _], box _ _ [_, _], box _ _ [_, _, _], box _ _ [_, _, _], box _ _ [_, _], box _ _ [_, _, _], box _ _ [_, _, _]] [_, _, _, _, _, _, _, _, _, _, _, _, _, _, _, _] rfl rfl (by simp only [nrmF]; rfl) rfl rfl ?_
                  refine JE_nextA ?_
                  refine JA_step [4] (by kernel_rfl) (by simp) ⟨⟨_, rfl, ?_⟩, trivial⟩
                  refine JL_store (vs := [_, _, _]) 3 ty36 rfl rfl rfl (AllOne.cons rfl (AllOne.cons rfl (AllOne.cons rfl AllOne.nil))) rfl (Nat.le_of_ble_eq_true rfl) ?_
                  refine JL_nil_up 74 [box _ _ [_, _], box _ _ [_, _, _], box _ _ [_, _], box _ _ [_, _, _], box _ _ [_, _, _], box _ _ [_, _], box _ _ [_, _, _], box _ _ [_, _, _]] [_, _, _, _, _, _, _, _, _, _, _, _, _, _, _, _] rfl rfl (by simp only [nrmF]; rfl) rfl rfl ?_
                  refine JE_nextA ?_
                  refine JA_step [5] (by kernel_rfl) (by simp) ⟨⟨_, rfl, ?_⟩, trivial⟩
                  refine JL_store (vs := [_, _, _]) 4 ty36 rfl rfl rfl (AllOne.cons rfl (AllOne.cons rfl (AllOne.cons rfl AllOne.nil))) rfl (Nat.le_of_ble_eq_true rfl) ?_
                  refine JL_nil_up 74 [box _ _ [_, _], box _ _ [_, _, _], box _ _ [_, _], box _ _ [_, _, _], box _ _ [_, _, _], box _ _ [_, _], box _ _ [_, _, _], box _ _ [_, _, _]] [_, _, _, _, _, _, _, _, _, _, _, _, _, _, _, _] rfl rfl (by simp only [nrmF]; rfl) rfl rfl ?_
                  refine JE_nextA ?_
                  refine JA_end (by kernel_rfl) ?_
                  refine JE_block_normal ?_
                  refine JE_dropAt 7 ?_
                  refine JE_norm _ [box _ _ [_, _], box _ _ [_, _, _], box _ _ [_, _], box _ _ [_, _, _], box _ _ [_, _, _], box _ _ [_, _], box _ _ [_, _, _]] [_, _, _, _, _, _, _, _, _, _, _, _, _, _, _, _] rfl rfl rfl ?_
                  refine JE_dropAt 6 ?_
                  refine JE_norm _ [box _ _ [_, _], box _ _ [_, _, _], box _ _ [_, _], box _ _ [_, _, _], box _ _ [_, _, _], box _ _ [_, _]] [_, _, _, _, _, _, _, _, _, _, _, _, _, _, _, _] rfl rfl rfl ?_
                  refine JE_dropAt 5 ?_
                  refine JE_norm _ [box _ _ [_, _], box _ _ [_, _, _], box _ _ [_, _], box _ _ [_, _, _], box _ _ [_, _, _]] [_, _, _, _, _, _, _, _, _, _, _, _, _, _, _, _] rfl rfl rfl ?_
                  refine JE_midS (((opnR n l).getD i dP), some (shQ n l ((opnR n l).getD i dP).1 ((opnR n l).getD i dP).2), some (offQ (shQ n l ((opnR n l).getD i dP).1 ((opnR n l).getD i dP).2)), ad49, cp49, be49, ce49, ad5, c5, be5, e5) (by kernel_rfl) ?_ (by kernel_rfl) ?_
                  · first | exact bal_up hB (.inl (by omega)) | exact bal_up hB (.inr h66)
                  · exact subset_app (subset_cons (by repeat (first | with_reducible exact mm0 | refine mmS ?_)) (subset_cons (by repeat (first | with_reducible exact mm0 | refine mmS ?_)) (subset_cons (by repeat (first | with_reducible exact mm0 | refine mmS ?_)) (subset_cons (by repeat (first | with_reducible exact mm0 | refine mmS ?_)) subset_nil)))) (ssS (ssS (ssS (ssS (ssS (ssS (ssS (ssS ss0))))))))
                · refine JL_store (vs := [_, _]) 2 ty44 rfl rfl rfl (AllOne.cons rfl (AllOne.cons rfl AllOne.nil)) rfl (Nat.le_of_ble_eq_true rfl) ?_
                  refine JL_nil_up 74 [box _ _ [_, _], box _ _ [_, _, _], box _ _ [_, _], box _ _ [_, _, _], box _ _ [_, _, _], box _ _ [_, _], box _ _ [_, _, _], box _ _ [_, _, _]] [_, _, _, _, _, _, _, _, _, _, _, _, _, _, _, _] rfl rfl (by simp only [nrmF]; rfl) rfl rfl ?_
                  refine JE_nextA ?_
                  refine JA_step [1] (by kernel_rfl) (by simp) ⟨⟨_, rfl, ?_⟩, trivial⟩
                  refine JL_loadA (vs := [_, _, _]) 6 ty36 rfl rfl ⟨rfl, rfl, rfl, trivial⟩ ?_
                  refine JL_nil ?_
                  refine JE_nextA ?_
                  refine JA_step [4] (by kernel_rfl) (by simp) ⟨⟨_, rfl, ?_⟩, trivial⟩
                  refine JL_store (vs := [_, _, _]) 3 ty36 rfl rfl rfl (AllOne.cons rfl (AllOne.cons rfl (AllOne.cons rfl AllOne.nil))) rfl (Nat.le_of_ble_eq_true rfl) ?_
                  refine JL_nil_up 74 [box _ _ [_, _], box _ _ [_, _, _], box _ _ [_, _], box _ _ [_, _, _], box _ _ [_, _, _], box _ _ [_, _], box _ _ [_, _, _], box _ _ [_, _, _]] [_, _, _, _, _, _, _, _, _, _, _, _, _, _, _, _] rfl rfl (by simp only [nrmF]; rfl) rfl rfl ?_
                  refine JE_nextA ?_
                  refine JA_step [5] (by kernel_rfl) (by simp) ⟨⟨_, rfl, ?_⟩, trivial⟩
                  refine JL_store (vs := [_, _, _]) 4 ty36 rfl rfl rfl (AllOne.cons rfl (AllOne.cons rfl (AllOne.cons rfl AllOne.nil))) rfl (Nat.le_of_ble_eq_true rfl) ?_
                  refine JL_nil_up 74 [box _ _ [_, _], box _ _ [_, _, _], box _ _ [_, _], box _ _ [_, _, _], box _ _ [_, _, _], box _ _ [_, _], box _ _ [_, _, _], box _ _ [_, _, _]] [_, _, _, _, _, _, _, _, _, _, _, _, _, _, _, _] rfl rfl (by simp only [nrmF]; rfl) rfl rfl ?_
                  refine JE_nextA ?_
                  refine JA_end (by kernel_rfl) ?_
                  refine JE_block_normal ?_
                  refine JE_dropAt 7 ?_
                  refine JE_norm _ [box _ _ [_, _], box _ _ [_, _, _], box _ _ [_, _], box _ _ [_, _, _], box _ _ [_, _, _], box _ _ [_, _], box _ _ [_, _, _]] [_, _, _, _, _, _, _, _, _, _, _, _, _, _, _, _] rfl rfl rfl ?_
                  refine JE_dropAt 6 ?_
                  refine JE_norm _ [box _ _ [_, _], box _ _ [_, _, _], box _ _ [_, _], box _ _ [_, _, _], box _ _ [_, _, _], box _ _ [_, _]] [_, _, _, _, _, _, _, _, _, _, _, _, _, _, _, _] rfl rfl rfl ?_
                  refine JE_dropAt 5 ?_
                  refine JE_norm _ [box _ _ [_, _], box _ _ [_, _, _], box _ _ [_, _], box _ _ [_, _, _], box _ _ [_, _, _]] [_, _, _, _, _, _, _, _, _, _, _, _, _, _, _, _] rfl rfl rfl ?_
                  refine JE_midS (((opnR n l).getD i dP), some (shQ n l ((opnR n l).getD i dP).1 ((opnR n l).getD i dP).2), some (offQ (shQ n l ((opnR n l).getD i dP).1 ((opnR n l).getD i dP).2)), ad49, cp49, be49, ce49, ad5, c5, be5, e5) (by kernel_rfl) ?_ (by kernel_rfl) ?_
                  · first | exact bal_up hB (.inl (by omega)) | exact bal_up hB (.inr h66)
                  · exact subset_app (subset_cons (by repeat (first | with_reducible exact mm0 | refine mmS ?_)) (subset_cons (by repeat (first | with_reducible exact mm0 | refine mmS ?_)) (subset_cons (by repeat (first | with_reducible exact mm0 | refine mmS ?_)) (subset_cons (by repeat (first | with_reducible exact mm0 | refine mmS ?_)) subset_nil)))) (ssS (ssS (ssS (ssS (ssS (ssS (ssS (ssS ss0))))))))
              · refine JL_loadA (vs := [_, _, _]) 6 ty36 rfl rfl ⟨rfl, rfl, rfl, trivial⟩ ?_
                refine JL_nil ?_
                refine JE_nextA ?_
                refine JA_step [0] (by kernel_rfl) (by simp) ⟨⟨_, rfl, ?_⟩, trivial⟩
                refine JL_loadA (vs := [_, _]) 5 ty44 rfl rfl ⟨rfl, rfl, trivial⟩ ?_
                refine JL_nil ?_
                refine JE_nextA ?_
                refine JA_step [3] (by kernel_rfl) (by simp) ⟨⟨_, rfl, ?_⟩, trivial⟩
                refine JL_store (vs := [_, _]) 2 ty44 rfl rfl rfl (AllOne.cons rfl (AllOne.cons rfl AllOne.nil)) rfl (Nat.le_of_ble_eq_true rfl) ?_
                refine JL_nil_up 74 [box _ _ [_, _], box _ _ [_, _, _], box _ _ [_, _], box _ _ [_, _, _], box _ _ [_, _, _], box _ _ [_, _], box _ _ [_, _, _], box _ _ [_, _, _]] [_, _, _, _, _, _, _, _, _, _, _, _, _, _, _, _] rfl rfl (by simp only [nrmF]; rfl) rfl rfl ?_
                refine JE_nextA ?_
                refine JA_step [4] (by kernel_rfl) (by simp) ⟨⟨_, rfl, ?_⟩, trivial⟩
                refine JL_store (vs := [_, _, _]) 3 ty36 rfl rfl rfl (AllOne.cons rfl (AllOne.cons rfl (AllOne.cons rfl AllOne.nil))) rfl (Nat.le_of_ble_eq_true rfl) ?_
                refine JL_nil_up 74 [box _ _ [_, _], box _ _ [_, _, _], box _ _ [_, _], box _ _ [_, _, _], box _ _ [_, _, _], box _ _ [_, _], box _ _ [_, _, _], box _ _ [_, _, _]] [_, _, _, _, _, _, _, _, _, _, _, _, _, _, _, _] rfl rfl (by simp only [nrmF]; rfl) rfl rfl ?_
                refine JE_nextA ?_
                refine JA_step [5] (by kernel_rfl) (by simp) ⟨⟨_, rfl, ?_⟩, trivial⟩
                refine JL_store (vs := [_, _, _]) 4 ty36 rfl rfl rfl (AllOne.cons rfl (AllOne.cons rfl (AllOne.cons rfl AllOne.nil))) rfl (Nat.le_of_ble_eq_true rfl) ?_
                refine JL_nil_up 74 [box _ _ [_, _], box _ _ [_, _, _], box _ _ [_, _], box _ _ [_, _, _], box _ _ [_, _, _], box _ _ [_, _], box _ _ [_, _, _], box _ _ [_, _, _]] [_, _, _, _, _, _, _, _, _, _, _, _, _, _, _, _] rfl rfl (by simp only [nrmF]; rfl) rfl rfl ?_
                refine JE_nextA ?_
                refine JA_end (by kernel_rfl) ?_
                refine JE_block_normal ?_
                refine JE_dropAt 7 ?_
                refine JE_norm _ [box _ _ [_, _], box _ _ [_, _, _], box _ _ [_, _], box _ _ [_, _, _], box _ _ [_, _, _], box _ _ [_, _], box _ _ [_, _, _]] [_, _, _, _, _, _, _, _, _, _, _, _, _, _, _, _] rfl rfl rfl ?_
                refine JE_dropAt 6 ?_
                refine JE_norm _ [box _ _ [_, _], box _ _ [_, _, _], box _ _ [_, _], box _ _ [_, _, _], box _ _ [_, _, _], box _ _ [_, _]] [_, _, _, _, _, _, _, _, _, _, _, _, _, _, _, _] rfl rfl rfl ?_
                refine JE_dropAt 5 ?_
                refine JE_norm _ [box _ _ [_, _], box _ _ [_, _, _], box _ _ [_, _], box _ _ [_, _, _], box _ _ [_, _, _]] [_, _, _, _, _, _, _, _, _, _, _, _, _, _, _, _] rfl rfl rfl ?_
                refine JE_midS (((opnR n l).getD i dP), some (shQ n l ((opnR n l).getD i dP).1 ((opnR n l).getD i dP).2), some (offQ (shQ n l ((opnR n l).getD i dP).1 ((opnR n l).getD i dP).2)), ad49, cp49, be49, ce49, ad5, c5, be5, e5) (by kernel_rfl) ?_ (by kernel_rfl) ?_
                · first | exact bal_up hB (.inl (by omega)) | exact bal_up hB (.inr h66)
                · exact subset_app (subset_cons (by repeat (first | with_reducible exact mm0 | refine mmS ?_)) (subset_cons (by repeat (first | with_reducible exact mm0 | refine mmS ?_)) (subset_cons (by repeat (first | with_reducible exact mm0 | refine mmS ?_)) (subset_cons (by repeat (first | with_reducible exact mm0 | refine mmS ?_)) subset_nil)))) (ssS (ssS (ssS (ssS (ssS (ssS (ssS (ssS ss0))))))))
          · refine JL_move rfl ?_
            refine JL_guard_yes rfl rfl ?_
            refine JL_loadA (vs := [_, _, _]) 7 ty36 rfl rfl ⟨rfl, rfl, rfl, trivial⟩ ?_
            refine JL_guard_yes rfl rfl ?_
            refine JL_loadA (vs := [_, _, _]) 4 ty36 rfl rfl ⟨rfl, rfl, rfl, trivial⟩ ?_
            refine JL_guard_yes rfl rfl ?_
            refine JL_callF' (Asks.cons (holds_of_mem (by repeat (first | with_reducible exact mm0 | refine mmS ?_))) (Asks.cons (holds_of_mem (by repeat (first | with_reducible exact mm0 | refine mmS ?_))) (Asks.cons (holds_of_mem (by repeat (first | with_reducible exact mm0 | refine mmS ?_))) (Asks.cons (holds_of_mem (by repeat (first | with_reducible exact mm0 | refine mmS ?_))) Asks.nil)))) (fcmpq_con (FIn.some ((qs_off (qs_shQ n l ((opnR n l).getD i dP).1 ((opnR n l).getD i dP).2)).2.mono (by decide))) (FIn.of (o := o2) (hq2.mono (by decide)))) rfl ca26 ⟨rfl, rfl, rfl⟩ ?_
            rintro _ _ ⟨rfl, rfl⟩
            refine JL_guard_yes rfl rfl ?_
            refine JL_lss rfl rfl ?_
            refine JL_split (fun h66 => ?_) (fun h66 => ?_)
            · refine JL_pick_f rfl rfl ?_
              refine JL_done_up 74 [box _ _ [_, _], box _ _ [_, _, _], box _ _ [_, _], box _ _ [_, _, _], box _ _ [_, _, _], box _ _ [_, _], box _ _ [_, _, _], box _ _ [_, _, _]] [_, _, _, _, _, _, _, _, _, _, _, _, _, _, _, _] rfl rfl (by simp only [nrmF]; rfl) rfl rfl ?_
              refine JC_true rfl ?_
              refine JC_drawA mixed 6 rfl ?_
              refine JA_step [0, 1, 2] (by kernel_rfl) (by simp) ⟨⟨_, rfl, ?_⟩, ⟨_, rfl, ?_⟩, ⟨_, rfl, ?_⟩, trivial⟩
              · refine JL_loadA (vs := [_, _]) 5 ty44 rfl rfl ⟨rfl, rfl, trivial⟩ ?_
                refine JL_nil ?_
                refine JE_nextA ?_
                refine JA_step [1, 2, 3] (by kernel_rfl) (by simp) ⟨⟨_, rfl, ?_⟩, ⟨_, rfl, ?_⟩, ⟨_, rfl, ?_⟩, trivial⟩
                · refine JL_loadA (vs := [_, _, _]) 6 ty36 rfl rfl ⟨rfl, rfl, rfl, trivial⟩ ?_
                  refine JL_nil ?_
                  refine JE_nextA ?_
                  refine JA_step [2, 3] (by kernel_rfl) (by simp) ⟨⟨_, rfl, ?_⟩, ⟨_, rfl, ?_⟩, trivial⟩
                  · refine JL_loadA (vs := [_, _, _]) 7 ty36 rfl rfl ⟨rfl, rfl, rfl, trivial⟩ ?_
                    refine JL_nil ?_
                    refine JE_nextA ?_
                    refine JA_step [3] (by kernel_rfl) (by simp) ⟨⟨_, rfl, ?_⟩, trivial⟩
                    refine JL_store (vs := [_, _]) 2 ty44 rfl rfl rfl (AllOne.cons rfl (AllOne.cons rfl AllOne.nil)) rfl (Nat.le_of_ble_eq_true rfl) ?_
                    refine JL_nil_up 74 [box _ _ [_, _], box _ _ [_, _, _], box _ _ [_, _], box _ _ [_, _, _], box _ _ [_, _, _], box _ _ [_, _], box _ _ [_, _, _], box _ _ [_, _, _]] [_, _, _, _, _, _, _, _, _, _, _, _, _, _, _, _] rfl rfl (by simp only [nrmF]; rfl) rfl rfl ?_
                    refine JE_nextA ?_
                    refine JA_step [4] (by kernel_rfl) (by simp) ⟨⟨_, rfl, ?_⟩, trivial⟩
                    refine JL_store (vs := [_, _, _]) 3 ty36 rfl rfl rfl (AllOne.cons rfl (AllOne.cons rfl (AllOne.cons rfl AllOne.nil))) rfl (Nat.le_of_ble_eq_true rfl) ?_
                    refine JL_nil_up 74 [box _ _ [_, _], box _ _ [_, _, _], box _ _ [_, _], box _ _ [_, _, _], box _ _ [_, _, _], box _ _ [_, _], box _ _ [_, _, _], box _ _ [_, _, _]] [_, _, _, _, _, _, _, _, _, _, _, _, _, _, _, _] rfl rfl (by simp only [nrmF]; rfl) rfl rfl ?_
                    refine JE_nextA ?_
                    refine JA_step [5] (by kernel_rfl) (by simp) ⟨⟨_, rfl, ?_⟩, trivial⟩
                    refine JL_store (vs := [_, _, _]) 4 ty36 rfl rfl rfl (AllOne.cons rfl (AllOne.cons rfl (AllOne.cons rfl AllOne.nil))) rfl (Nat.le_of_ble_eq_true rfl) ?_
                    refine JL_nil_up 74 [box _ _ [_, _], box _ _ [_, _, _], box _ _ [_, _], box _ _ [_, _, _], box _ _ [_, _, _], box _ _ [_, _], box _ _ [_, _, _], box _ _ [_, _, _]] [_, _, _, _, _, _, _, _, _, _, _, _, _, _, _, _] rfl rfl (by simp only [nrmF]; rfl) rfl rfl ?_
                    refine JE_nextA ?_
                    refine JA_end (by kernel_rfl) ?_
                    refine JE_block_normal ?_
                    refine JE_dropAt 7 ?_
                    refine JE_norm _ [box _ _ [_, _], box _ _ [_, _, _], box _ _ [_, _], box _ _ [_, _, _], box _ _ [_, _, _], box _ _ [_, _], box _ _ [_, _, _]] [_, _, _, _, _, _, _, _, _, _, _, _, _, _, _, _] rfl rfl rfl ?_
                    refine JE_dropAt 6 ?_
                    refine JE_norm _ [box _ _ [_, _], box _ _ [_, _, _], box _ _ [_, _], box _ _ [_, _, _], box _ _ [_, _, _], box _ _ [_, _]] [_, _, _, _, _, _, _, _, _, _, _, _, _, _, _, _] rfl rfl rfl ?_
                    refine JE_dropAt 5 ?_
                    refine JE_norm _ [box _ _ [_, _], box _ _ [_, _, _], box _ _ [_, _], box _ _ [_, _, _], box _ _ [_, _, _]] [_, _, _, _, _, _, _, _, _, _, _, _, _, _, _, _] rfl rfl rfl ?_
                    refine JE_midS (((opnR n l).getD i dP), some (shQ n l ((opnR n l).getD i dP).1 ((opnR n l).getD i dP).2), some (offQ (shQ n l ((opnR n l).getD i dP).1 ((opnR n l).getD i dP).2)), ad49, cp49, be49, ce49, ad5, c5, be5, e5) (by kernel_rfl) ?_ (by kernel_rfl) ?_
                    · first | exact bal_up hB (.inl (by omega)) | exact bal_up hB (.inr h66)
                    · exact subset_app (subset_cons (by repeat (first | with_reducible exact mm0 | refine mmS ?_)) (subset_cons (by repeat (first | with_reducible exact mm0 | refine mmS ?_)) (subset_cons (by repeat (first | with_reducible exact mm0 | refine mmS ?_)) (subset_cons (by repeat (first | with_reducible exact mm0 | refine mmS ?_)) subset_nil)))) (ssS (ssS (ssS (ssS (ssS (ssS (ssS (ssS ss0))))))))
                  · refine JL_store (vs := [_, _]) 2 ty44 rfl rfl rfl (AllOne.cons rfl (AllOne.cons rfl AllOne.nil)) rfl (Nat.le_of_ble_eq_true rfl) ?_
                    refine JL_nil_up 74 [box _ _ [_, _], box _ _ [_, _, _], box _ _ [_, _], box _ _ [_, _, _], box _ _ [_, _, _], box _ _ [_, _], box _ _ [_, _, _], box _ _ [_, _, _]] [_, _, _, _, _, _, _, _, _, _, _, _, _, _, _, _] rfl rfl (by simp only [nrmF]; rfl) rfl rfl ?_
                    refine JE_nextA ?_
                    refine JA_step [2, 4] (by kernel_rfl) (by simp) ⟨⟨_, rfl, ?_⟩, ⟨_, rfl, ?_⟩, trivial⟩
                    · refine JL_loadA (vs := [_, _, _]) 7 ty36 rfl rfl ⟨rfl, rfl, rfl, trivial⟩ ?_
                      refine JL_nil ?_
                      refine JE_nextA ?_
                      refine JA_step [4] (by kernel_rfl) (by simp) ⟨⟨_, rfl, ?_⟩, trivial⟩
                      refine JL_store (vs := [_, _, _]) 3 ty36 rfl rfl rfl (AllOne.cons rfl (AllOne.cons rfl (AllOne.cons rfl AllOne.nil))) rfl (Nat.le_of_ble_eq_true rfl) ?_
                      refine JL_nil_up 74 [box _ _ [_, _], box _ _ [_, _, _], box _ _ [_, _], box _ _ [_, _, _], box _ _ [_, _, _], box _ _ [_, _], box _ _ [_, _, _], box _ _ [_, _, _]] [_, _, _, _, _, _, _, _, _, _, _, _, _, _, _, _] rfl rfl (by simp only [nrmF]; rfl) rfl rfl ?_
                      refine JE_nextA ?_
                      refine JA_step [5] (by kernel_rfl) (by simp) ⟨⟨_, rfl, ?_⟩, trivial⟩
                      refine JL_store (vs := [_, _, _]) 4 ty36 rfl rfl rfl (AllOne.cons rfl (AllOne.cons rfl (AllOne.cons rfl AllOne.nil))) rfl (Nat.le_of_ble_eq_true rfl) ?_
                      refine JL_nil_up 74 [box _ _ [_, _], box _ _ [_, _, _], box _ _ [_, _], box _ _ [_, _, _], box _ _ [_, _, _], box _ _ [_, _], box _ _ [_, _, _], box _ _ [_, _, _]] [_, _, _, _, _, _, _, _, _, _, _, _, _, _, _, _] rfl rfl (by simp only [nrmF]; rfl) rfl rfl ?_
                      refine JE_nextA ?_
                      refine JA_end (by kernel_rfl) ?_
                      refine JE_block_normal ?_
                      refine JE_dropAt 7 ?_
                      refine JE_norm _ [box _ _ [_, _], box _ _ [_, _, _], box _ _ [_, _], box _ _ [_, _, _], box _ _ [_, _, _], box _ _ [_, _], box _ _ [_, _, _]] [_, _, _, _, _, _, _, _, _, _, _, _, _, _, _, _] rfl rfl rfl ?_
                      refine JE_dropAt 6 ?_
                      refine JE_norm _ [box _ _ [_, _], box _ _ [_, _, _], box _ _ [_, _], box _ _ [_, _, _], box _ _ [_, _, _], box _ _ [_, _]] [_, _, _, _, _, _, _, _, _, _, _, _, _, _, _, _] rfl rfl rfl ?_
                      refine JE_dropAt 5 ?_
                      refine JE_norm _ [box _ _ [_, _], box _ _ [_, _, _], box _ _ [_, _], box _ _ [_, _, _], box _ _ [_, _, _]] [_, _, _, _, _, _, _, _, _, _, _, _, _, _, _, _] rfl rfl rfl ?_
                      refine JE_midS (((opnR n l).getD i dP), some (shQ n l ((opnR n l).getD i dP).1 ((opnR n l).getD i dP).2), some (offQ (shQ n l ((opnR n l).getD i dP).1 ((opnR n l).getD i dP).2)), ad49, cp49, be49, ce49, ad5, c5, be5, e5) (by kernel_rfl) ?_ (by kernel_rfl) ?_
                      · first | exact bal_up hB (.inl (by omega)) | exact bal_up hB (.inr h66)
                      · exact subset_app (subset_cons (by repeat (first | with_reducible exact mm0 | refine mmS ?_)) (subset_cons (by repeat (first | with_reducible exact mm0 | refine mmS ?_)) (subset_cons (by repeat (first | with_reducible exact mm0 | refine mmS ?_)) (subset_cons (by repeat (first | with_reducible exact mm0 | refine mmS ?_)) subset_nil)))) (ssS (ssS (ssS (ssS (ssS (ssS (ssS (ssS ss0))))))))
                    · refine JL_store (vs := [_, _, _]) 3 ty36 rfl rfl rfl (AllOne.cons rfl (AllOne.cons rfl (AllOne.cons rfl AllOne.nil))) rfl (Nat.le_of_ble_eq_true rfl) ?_
                      refine JL_nil_up 74 [box _ _ [_, _], box _ _ [_, _, _], box _ _ [_, _], box _ _ [_, _, _], box _ _ [_, _, _], box _ _ [_, _], box _ _ [_, _, _], box _ _ [_, _, _]] [_, _, _, _, _, _, _, _, _, _, _, _, _, _, _, _] rfl rfl (by simp only [nrmF]; rfl) rfl rfl ?_
                      refine JE_nextA ?_
                      refine JA_step [2] (by kernel_rfl) (by simp) ⟨⟨_, rfl, ?_⟩, trivial⟩
                      refine JL_loadA (vs := [_, _, _]) 7 ty36 rfl rfl ⟨rfl, rfl, rfl, trivial⟩ ?_
                      refine JL_nil ?_
                      refine JE_nextA ?_
                      refine JA_step [5] (by kernel_rfl) (by simp) ⟨⟨_, rfl, ?_⟩, trivial⟩
                      refine JL_store (vs := [_, _, _]) 4 ty36 rfl rfl rfl (AllOne.cons rfl (AllOne.cons rfl (AllOne.cons rfl AllOne.nil))) rfl (Nat.le_of_ble_eq_true rfl) ?_
                      refine JL_nil_up 74 [box _ _ [_, _], box _ _ [_, _, _], box _ _ [_, _], box _ _ [_, _, _], box _ _ [_, _, _], box _ _ [_, _], box _ _ [_, _, _], box _ _ [_, _, _]] [_, _, _, _, _, _, _, _, _, _, _, _, _, _, _, _] rfl rfl (by simp only [nrmF]; rfl) rfl rfl ?_
                      refine JE_nextA ?_
                      refine JA_end (by kernel_rfl) ?_
                      refine JE_block_normal ?_
                      refine JE_dropAt 7 ?_
                      refine JE_norm _ [box _ _ [_, _], box _ _ [_, _, _], box _ _ [_, _], box _ _ [_, _, _], box _ _ [_, _, _], box _ _ [_, _], box _ _ [_, _, _]] [_, _, _, _, _, _, _, _, _, _, _, _, _, _, _, _] rfl rfl rfl ?_
                      refine JE_dropAt 6 ?_
                      refine JE_norm _ [box _ _ [_, _], box _ _ [_, _, _], box _ _ [_, _], box _ _ [_, _, _], box _ _ [_, _, _], box _ _ [_, _]] [_, _, _, _, _, _, _, _, _, _, _, _, _, _, _, _] rfl rfl rfl ?_
                      refine JE_dropAt 5 ?_
                      refine JE_norm _ [box _ _ [_, _], box _ _ [_, _, _], box _ _ [_, _], box _ _ [_, _, _], box _ _ [_, _, _]] [_, _, _, _, _, _, _, _, _, _, _, _, _, _, _, _] rfl rfl rfl ?_
                      refine JE_midS (((opnR n l).getD i dP), some (shQ n l ((opnR n l).getD i dP).1 ((opnR n l).getD i dP).2), some (offQ (shQ n l ((opnR n l).getD i dP).1 ((opnR n l).getD i dP).2)), ad49, cp49, be49, ce49, ad5, c5, be5, e5) (by kernel_rfl) ?_ (by kernel_rfl) ?_
                      · first | exact bal_up hB (.inl (by omega)) | exact bal_up hB (.inr h66)
                      · exact subset_app (subset_cons (by repeat (first | with_reducible exact mm0 | refine mmS ?_)) (subset_cons (by repeat (first | with_reducible exact mm0 | refine mmS ?_)) (subset_cons (by repeat (first | with_reducible exact mm0 | refine mmS ?_)) (subset_cons (by repeat (first | with_reducible exact mm0 | refine mmS ?_)) subset_nil)))) (ssS (ssS (ssS (ssS (ssS (ssS (ssS (ssS ss0))))))))
                · refine JL_loadA (vs := [_, _, _]) 7 ty36 rfl rfl ⟨rfl, rfl, rfl, trivial⟩ ?_
                  refine JL_nil ?_
                  refine JE_nextA ?_
                  refine JA_step [1, 3] (by kernel_rfl) (by simp) ⟨⟨_, rfl, ?_⟩, ⟨_, rfl, ?_⟩, trivial⟩
                  · refine JL_loadA (vs := [_, _, _]) 6 ty36 rfl rfl ⟨rfl, rfl, rfl, trivial⟩ ?_
                    refine JL_nil ?_
                    refine JE_nextA ?_
                    refine JA_step [3] (by kernel_rfl) (by simp) ⟨⟨_, rfl, ?_⟩, trivial⟩
                    refine JL_store (vs := [_, _]) 2 ty44 rfl rfl rfl (AllOne.cons rfl (AllOne.cons rfl AllOne.nil)) rfl (Nat.le_of_ble_eq_true rfl) ?_
                    refine JL_nil_up 74 [box _ _ [_, _], box _ _ [_, _, _], box _ _ [_, _], box _ _ [_, _, _], box _ _ [_, _, _], box _ _ [_, _], box _ _ [_, _, _], box _ _ [_, _, _]] [_, _, _, _, _, _, _, _, _, _, _, _, _, _, _, _] rfl rfl (by simp only [nrmF]; rfl) rfl rfl ?_
                    refine JE_nextA ?_
                    refine JA_step [4] (by kernel_rfl) (by simp) ⟨⟨_, rfl, ?_⟩, trivial⟩
                    refine JL_store (vs := [_, _, _]) 3 ty36 rfl rfl rfl (AllOne.cons rfl (AllOne.cons rfl (AllOne.cons rfl AllOne.nil))) rfl (Nat.le_of_ble_eq_true rfl) ?_
                    refine JL_nil_up 74 [box _ _ [_, _], box _ _ [_, _, _], box _ _ [_, _], box _ _ [_, _, _], box _ _ [_, _, _], box _ _ [_, _], box _ _ [_, _, _], box _ _ [_, _, _]] [_, _, _, _, _, _, _, _, _, _, _, _, _, _, _, _] rfl rfl (by simp only [nrmF]; rfl) rfl rfl ?_
                    refine JE_nextA ?_
                    refine JA_step [5] (by kernel_rfl) (by simp) ⟨⟨_, rfl, ?_⟩, trivial⟩
                    refine JL_store (vs := [_, _, _]) 4 ty36 rfl rfl rfl (AllOne.cons rfl (AllOne.cons rfl (AllOne.cons rfl AllOne.nil))) rfl (Nat.le_of_ble_eq_true rfl) ?_
                    refine JL_nil_up 74 [box _ _ [_, _], box _ _ [_, _, _], box _ _ [_, _], box _ _ [_, _, _], box _ _ [_, _, _], box _ _ [_, _], box _ _ [_, _, _], box _ _ [_, _, _]] [_, _, _, _, _, _, _, _, _, _, _, _, _, _, _, _] rfl rfl (by simp only [nrmF]; rfl) rfl rfl ?_
                    refine JE_nextA ?_
                    refine JA_end (by kernel_rfl) ?_
                    refine JE_block_normal ?_
                    refine JE_dropAt 7 ?_
                    refine JE_norm _ [box _ _ [_, _], box _ _ [_, _, _], box _ _ [_, _], box _ _ [_, _, _], box _ _ [_, _, _], box _ _ [_, _], box _ _ [_, _, _]] [_, _, _, _, _, _, _, _, _, _, _, _, _, _, _, _] rfl rfl rfl ?_
                    refine JE_dropAt 6 ?_
                    refine JE_norm _ [box _ _ [_, _], box _ _ [_, _, _], box _ _ [_, _], box _ _ [_, _, _], box _ _ [_, _, _], box _ _ [_, _]] [_, _, _, _, _, _, _, _, _, _, _, _, _, _, _, _] rfl rfl rfl ?_
                    refine JE_dropAt 5 ?_
                    refine JE_norm _ [box _ _ [_, _], box _ _ [_, _, _], box _ _ [_, _], box _ _ [_, _, _], box _ _ [_, _, _]] [_, _, _, _, _, _, _, _, _, _, _, _, _, _, _, _] rfl rfl rfl ?_
                    refine JE_midS (((opnR n l).getD i dP), some (shQ n l ((opnR n l).getD i dP).1 ((opnR n l).getD i dP).2), some (offQ (shQ n l ((opnR n l).getD i dP).1 ((opnR n l).getD i dP).2)), ad49, cp49, be49, ce49, ad5, c5, be5, e5) (by kernel_rfl) ?_ (by kernel_rfl) ?_
                    · first | exact bal_up hB (.inl (by omega)) | exact bal_up hB (.inr h66)
                    · exact subset_app (subset_cons (by repeat (first | with_reducible exact mm0 | refine mmS ?_)) (subset_cons (by repeat (first | with_reducible exact mm0 | refine mmS ?_)) (subset_cons (by repeat (first | with_reducible exact mm0 | refine mmS ?_)) (subset_cons (by repeat (first | with_reducible exact mm0 | refine mmS ?_)) subset_nil)))) (ssS (ssS (ssS (ssS (ssS (ssS (ssS (ssS ss0))))))))
                  · refine JL_store (vs := [_, _]) 2 ty44 rfl rfl rfl (AllOne.cons rfl (AllOne.cons rfl AllOne.nil)) rfl (Nat.le_of_ble_eq_true rfl) ?_
                    refine JL_nil_up 74 [box _ _ [_, _], box _ _ [_, _, _], box _ _ [_, _], box _ _ [_, _, _], box _ _ [_, _, _], box _ _ [_, _], box _ _ [_, _, _], box _ _ [_, _, _]] [_, _, _, _, _, _, _, _, _, _, _, _, _, _, _, _] rfl rfl (by simp only [nrmF]; rfl) rfl rfl ?_
                    refine JE_nextA ?_
                    refine JA_step [1] (by kernel_rfl) (by simp) ⟨⟨_, rfl, ?_⟩, trivial⟩
                    refine JL_loadA (vs := [_, _, _]) 6 ty36 rfl rfl ⟨rfl, rfl, rfl, trivial⟩ ?_
                    refine JL_nil ?_
                    refine JE_nextA ?_
                    refine JA_step [4] (by kernel_rfl) (by simp) ⟨⟨_, rfl, ?_⟩, trivial⟩
                    refine JL_store (vs := [_, _, _]) 3 ty36 rfl rfl rfl (AllOne.cons rfl (AllOne.cons rfl (AllOne.cons rfl AllOne.nil))) rfl (Nat.le_of_ble_eq_true rfl) ?_
                    refine JL_nil_up 74 [box _ _ [_, _], box _ _ [_, _, _], box _ _ [_, _], box _ _ [_, _, _], box _ _ [_, _, _], box _ _ [_, _], box _ _ [_, _, _], box _ _ [_, _, _]] [_, _, _, _, _, _, _, _, _, _, _, _, _, _, _, _] rfl rfl (by simp only [nrmF]; rfl) rfl rfl ?_
                    refine JE_nextA ?_
                    refine JA_step [5] (by kernel_rfl) (by simp) ⟨⟨_, rfl, ?_⟩, trivial⟩
                    refine JL_store (vs := [_, _, _]) 4 ty36 rfl rfl rfl (AllOne.cons rfl (AllOne.cons rfl (AllOne.cons rfl AllOne.nil))) rfl (Nat.le_of_ble_eq_true rfl) ?_
                    refine JL_nil_up 74 [box _ _ [_, _], box _ _ [_, _, _], box _ _ [_, _], box _ _ [_, _, _], box _ _ [_, _, _], box _ _ [_, _], box _ _ [_, _, _], box _ _ [_, _, _]] [_, _, _, _, _, _, _, _, _, _, _, _, _, _, _, _] rfl rfl (by simp only [nrmF]; rfl) rfl rfl ?_
                    refine JE_nextA ?_
                    refine JA_end (by kernel_rfl) ?_
                    refine JE_block_normal ?_
                    refine JE_dropAt 7 ?_
                    refine JE_norm _ [box _ _ [_, _], box _ _ [_, _, _], box _ _ [_, _], box _ _ [_, _, _], box _ _ [_, _, _], box _ _ [_, _], box _ _ [_, _, _]] [_, _, _, _, _, _, _, _, _, _, _, _, _, _, _, _] rfl rfl rfl ?_
                    refine JE_dropAt 6 ?_
                    refine JE_norm _ [box _ _ [_, _], box _ _ [_, _, _], box _ _ [_, _], box _ _ [_, _, _], box _ _ [_, _, _], box _ _ [_, _]] [_, _, _, _, _, _, _, _, _, _, _, _, _, _, _, _] rfl rfl rfl ?_
                    refine JE_dropAt 5 ?_
                    refine JE_norm _ [box _ _ [_, _], box _ _ [_, _, _], box _ _ [_, _], box _ _ [_, _, _], box _ _ [_, _, _]] [_, _, _, _, _, _, _, _, _, _, _, _, _, _, _, _] rfl rfl rfl ?_
                    refine JE_midS (((opnR n l).getD i dP), some (shQ n l ((opnR n l).getD i dP).1 ((opnR n l).getD i dP).2), some (offQ (shQ n l ((opnR n l).getD i dP).1 ((opnR n l).getD i dP).2)), ad49, cp49, be49, ce49, ad5, c5, be5, e5) (by kernel_rfl) ?_ (by kernel_rfl) ?_
                    · first | exact bal_up hB (.inl (by omega)) | exact bal_up hB (.inr h66)
                    · exact subset_app (subset_cons (by repeat (first | with_reducible exact mm0 | refine mmS ?_)) (subset_cons (by repeat (first | with_reducible exact mm0 | refine mmS ?_)) (subset_cons (by repeat (first | with_reducible exact mm0 | refine mmS ?_)) (subset_cons (by repeat (first | with_reducible exact mm0 | refine mmS ?_)) subset_nil)))) (ssS (ssS (ssS (ssS (ssS (ssS (ssS (ssS ss0))))))))
                · refine JL_store (vs := [_, _]) 2 ty44 rfl rfl rfl (AllOne.cons rfl (AllOne.cons rfl AllOne.nil)) rfl (Nat.le_of_ble_eq_true rfl) ?_
                  refine JL_nil_up 74 [box _ _ [_, _], box _ _ [_, _, _], box _ _ [_, _], box _ _ [_, _, _], box _ _ [_, _, _], box _ _ [_, _], box _ _ [_, _, _], box _ _ [_, _, _]] [_, _, _, _, _, _, _, _, _, _, _, _, _, _, _, _] rfl rfl (by simp only [nrmF]; rfl) rfl rfl ?_
                  refine JE_nextA ?_
                  refine JA_step [1, 2] (by kernel_rfl) (by simp) ⟨⟨_, rfl, ?_⟩, ⟨_, rfl, ?_⟩, trivial⟩
                  · refine JL_loadA (vs := [_, _, _]) 6 ty36 rfl rfl ⟨rfl, rfl, rfl, trivial⟩ ?_
                    refine JL_nil ?_
                    refine JE_nextA ?_
                    refine JA_step [2, 4] (by kernel_rfl) (by simp) ⟨⟨_, rfl, ?_⟩, ⟨_, rfl, ?_⟩, trivial⟩
                    · refine JL_loadA (vs := [_, _, _]) 7 ty36 rfl rfl ⟨rfl, rfl, rfl, trivial⟩ ?_
                      refine JL_nil ?_
                      refine JE_nextA ?_
                      refine JA_step [4] (by kernel_rfl) (by simp) ⟨⟨_, rfl, ?_⟩, trivial⟩
                      refine JL_store (vs := [_, _, _]) 3 ty36 rfl rfl rfl (AllOne.cons rfl (AllOne.cons rfl (AllOne.cons rfl AllOne.nil))) rfl (Nat.le_of_ble_eq_true rfl) ?_
                      refine JL_nil_up 74 [box _ _ [_, _], box _ _ [_, _, _], box _ _ [_, _], box _ _ [_, _, _], box _ _ [_, _, _], box _ _ [_, _], box _ _ [_, _, _], box _ _ [_, _, _]] [_, _, _, _, _, _, _, _, _, _, _, _, _, _, _, _] rfl rfl (by simp only [nrmF]; rfl) rfl rfl ?_
                      refine JE_nextA ?_
                      refine JA_step [5] (by kernel_rfl) (by simp) ⟨⟨_, rfl, ?_⟩, trivial⟩
                      refine JL_store (vs := [_, _, _]) 4 ty36 rfl rfl rfl (AllOne.cons rfl (AllOne.cons rfl (AllOne.cons rfl AllOne.nil))) rfl (Nat.le_of_ble_eq_true rfl) ?_
                      refine JL_nil_up 74 [box _ _ [_, _], box _ _ [_, _, _], box _ _ [_, _], box _ _ [_, _, _], box _ _ [_, _, _], box _ _ [_, _], box _ _ [_, _, _], box _ _ [_, _, _]] [_, _, _, _, _, _, _, _, _, _, _, _, _, _, _, _] rfl rfl (by simp only [nrmF]; rfl) rfl rfl ?_
                      refine JE_nextA ?_
                      refine JA_end (by kernel_rfl) ?_
                      refine JE_block_normal ?_
                      refine JE_dropAt 7 ?_
                      refine JE_norm _ [box _ _ [_, _], box _ _ [_, _, _], box _ _ [_, _], box _ _ [_, _, _], box _ _ [_, _, _], box _ _ [_, _], box _ _ [_, _, _]] [_, _, _, _, _, _, _, _, _, _, _, _, _, _, _, _] rfl rfl rfl ?_
                      refine JE_dropAt 6 ?_
                      refine JE_norm _ [box _ _ [_, _], box _ _ [_, _, _], box _ _ [_, _], box _ _ [_, _, _], box _ _ [_, _, _], box _ _ [_, _]] [_, _, _, _, _, _, _, _, _, _, _, _, _, _, _, _] rfl rfl rfl ?_
                      refine JE_dropAt 5 ?_
                      refine JE_norm _ [box _ _ [_, _], box _ _ [_, _, _], box _ _ [_, _], box _ _ [_, _, _], box _ _ [_, _, _]] [_, _, _, _, _, _, _, _, _, _, _, _, _, _, _, _] rfl rfl rfl ?_
                      refine JE_midS (((opnR n l).getD i dP), some (shQ n l ((opnR n l).getD i dP).1 ((opnR n l).getD i dP).2), some (offQ (shQ n l ((opnR n l).getD i dP).1 ((opnR n l).getD i dP).2)), ad49, cp49, be49, ce49, ad5, c5, be5, e5) (by kernel_rfl) ?_ (by kernel_rfl) ?_
                      · first | exact bal_up hB (.inl (by omega)) | exact bal_up hB (.inr h66)
                      · exact subset_app (subset_cons (by repeat (first | with_reducible exact mm0 | refine mmS ?_)) (subset_cons (by repeat (first | with_reducible exact mm0 | refine mmS ?_)) (subset_cons (by repeat (first | with_reducible exact mm0 | refine mmS ?_)) (subset_cons (by repeat (first | with_reducible exact mm0 | refine mmS ?_)) subset_nil)))) (ssS (ssS (ssS (ssS (ssS (ssS (ssS (ssS ss0))))))))
                    · refine JL_store (vs := [_, _, _]) 3 ty36 rfl rfl rfl (AllOne.cons rfl (AllOne.cons rfl (AllOne.cons rfl AllOne.nil))) rfl (Nat.le_of_ble_eq_true rfl) ?_
                      refine JL_nil_up 74 [box _ _ [_, _], box _ _ [_, _, _], box _ _ [_, _], box _ _ [_, _, _], box _ _ [_, _, _], box _ _ [_, _], box _ _ [_, _, _], box _ _ [_, _, _]] [_, _, _, _, _, _, _, _, _, _, _, _, _, _, _, _] rfl rfl (by simp only [nrmF]; rfl) rfl rfl ?_
                      refine JE_nextA ?_
                      refine JA_step [2] (by kernel_rfl) (by simp) ⟨⟨_, rfl, ?_⟩, trivial⟩
                      refine JL_loadA (vs := [_, _, _]) 7 ty36 rfl rfl ⟨rfl, rfl, rfl, trivial⟩ ?_
                      refine JL_nil ?_
                      refine JE_nextA ?_
                      refine JA_step [5] (by kernel_rfl) (by simp) ⟨⟨_, rfl, ?_⟩, trivial⟩
                      refine JL_store (vs := [_, _, _]) 4 ty36 rfl rfl rfl (AllOne.cons rfl (AllOne.cons rfl (AllOne.cons rfl AllOne.nil))) rfl (Nat.le_of_ble_eq_true rfl) ?_
                      refine JL_nil_up 74 [box _ _ [_, _], box _ _ [_, _, _], box _ _ [_, _], box _ _ [_, _, _], box _ _ [_, _, _], box _ _ [_, _], box _ _ [_, _, _], box _ _ [_, _, _]] [_, _, _, _, _, _, _, _, _, _, _, _, _, _, _, _] rfl rfl (by simp only [nrmF]; rfl) rfl rfl ?_
                      refine JE_nextA ?_
                      refine JA_end (by kernel_rfl) ?_
                      refine JE_block_normal ?_
                      refine JE_dropAt 7 ?_
                      refine JE_norm _ [box _ _ [_, _], box _ _ [_, _, _], box _ _ [_, _], box _ _ [_, _, _], box _ _ [_, _, _], box _ _ [_, _], box _ _ [_, _, _]] [_, _, _, _, _, _, _, _, _, _, _, _, _, _, _, _] rfl rfl rfl ?_
                      refine JE_dropAt 6 ?_
                      refine JE_norm _ [box _ _ [_, _], box _ _ [_, _, _], box _ _ [_, _], box _ _ [_, _, _], box _ _ [_, _, _], box _ _ [_, _]] [_, _, _, _, _, _, _, _, _, _, _, _, _, _, _, _] rfl rfl rfl ?_
                      refine JE_dropAt 5 ?_
                      refine JE_norm _ [box _ _ [_, _], box _ _ [_, _, _], box _ _ [_, _], box _ _ [_, _, _], box _ _ [_, _, _]] [_, _, _, _, _, _, _, _, _, _, _, _, _, _, _, _] rfl rfl rfl ?_
                      refine JE_midS (((opnR n l).getD i dP), some (shQ n l ((opnR n l).getD i dP).1 ((opnR n l).getD i dP).2), some (offQ (shQ n l ((opnR n l).getD i dP).1 ((opnR n l).getD i dP).2)), ad49, cp49, be49, ce49, ad5, c5, be5, e5) (by kernel_rfl) ?_ (by kernel_rfl) ?_
                      · first | exact bal_up hB (.inl (by omega)) | exact bal_up hB (.inr h66)
                      · exact subset_app (subset_cons (by repeat (first | with_reducible exact mm0 | refine mmS ?_)) (subset_cons (by repeat (first | with_reducible exact mm0 | refine mmS ?_)) (subset_cons (by repeat (first | with_reducible exact mm0 | refine mmS ?_)) (subset_cons (by repeat (first | with_reducible exact mm0 | refine mmS ?_)) subset_nil)))) (ssS (ssS (ssS (ssS (ssS (ssS (ssS (ssS ss0))))))))
                  · refine JL_loadA (vs := [_, _, _]) 7 ty36 rfl rfl ⟨rfl, rfl, rfl, trivial⟩ ?_
                    refine JL_nil ?_
                    refine JE_nextA ?_
                    refine JA_step [1] (by kernel_rfl) (by simp) ⟨⟨_, rfl, ?_⟩, trivial⟩
                    refine JL_loadA (vs := [_, _, _]) 6 ty36 rfl rfl ⟨rfl, rfl, rfl, trivial⟩ ?_
                    refine JL_nil ?_
                    refine JE_nextA ?_
                    refine JA_step [4] (by kernel_rfl) (by simp) ⟨⟨_, rfl, ?_⟩, trivial⟩
                    refine JL_store (vs := [_, _, _]) 3 ty36 rfl rfl rfl (AllOne.cons rfl (AllOne.cons rfl (AllOne.cons rfl AllOne.nil))) rfl (Nat.le_of_ble_eq_true rfl) ?_
                    refine JL_nil_up 74 [box _ _ [_, _], box _ _ [_, _, _], box _ _ [_, _], box _ _ [_, _, _], box _ _ [_, _, _], box _ _ [_, _], box _ _ [_, _, _], box _ _ [_, _, _]] [_, _, _, _, _, _, _, _, _, _, _, _, _, _, _, _] rfl rfl (by simp only [nrmF]; rfl) rfl rfl ?_
                    refine JE_nextA ?_
                    refine JA_step [5] (by kernel_rfl) (by simp) ⟨⟨_, rfl, ?_⟩, trivial⟩
                    refine JL_store (vs := [_, _, _]) 4 ty36 rfl rfl rfl (AllOne.cons rfl (AllOne.cons rfl (AllOne.cons rfl AllOne.nil))) rfl (Nat.le_of_ble_eq_true rfl) ?_
                    refine JL_nil_up 74 [box _ _ [_, _], box _ _ [_, _, _], box _ _ [_, _], box _ _ [_, _, _], box _ _ [_, _, _], box _ _ [_, _], box _ _ [_, _, _], box _ _ [_, _, _]] [_, _, _, _, _, _, _, _, _, _, _, _, _, _, _, _] rfl rfl (by simp only [nrmF]; rfl) rfl rfl ?_
                    refine JE_nextA ?_
                    refine JA_end (by kernel_rfl) ?_
                    refine JE_block_normal ?_
                    refine JE_dropAt 7 ?_
                    refine JE_norm _ [box _ _ [_, _], box _ _ [_, _, _], box _ _ [_, _], box _ _ [_, _, _], box _ _ [_, _, _], box _ _ [_, _], box _ _ [_, _, _]] [_, _, _, _, _, _, _, _, _, _, _, _, _, _, _, _] rfl rfl rfl ?_
                    refine JE_dropAt 6 ?_
                    refine JE_norm _ [box _ _ [_, _], box _ _ [_, _, _], box _ _ [_, _], box _ _ [_, _, _], box _ _ [_, _, _], box _ _ [_, _]] [_, _, _, _, _, _, _, _, _, _, _, _, _, _, _, _] rfl rfl rfl ?_
                    refine JE_dropAt 5 ?_
                    refine JE_norm _ [box _ _ [_, _], box _ _ [_, _, _], box _ _ [_, _], box _ _ [_, _, _], box _ _ [_, _, _]] [_, _, _, _, _, _, _, _, _, _, _, _, _, _, _, _] rfl rfl rfl ?_
                    refine JE_midS (((opnR n l).getD i dP), some (shQ n l ((opnR n l).getD i dP).1 ((opnR n l).getD i dP).2), some (offQ (shQ n l ((opnR n l).getD i dP).1 ((opnR n l).getD i dP).2)), ad49, cp49, be49, ce49, ad5, c5, be5, e5) (by kernel_rfl) ?_ (by kernel_rfl) ?_
                    · first | exact bal_up hB (.inl (by omega)) | exact bal_up hB (.inr h66)
                    · exact subset_app (subset_cons (by repeat (first | with_reducible exact mm0 | refine mmS ?_)) (subset_cons (by repeat (first | with_reducible exact mm0 | refine mmS ?_)) (subset_cons (by repeat (first | with_reducible exact mm0 | refine mmS ?_)) (subset_cons (by repeat (first | with_reducible exact mm0 | refine mmS ?_)) subset_nil)))) (ssS (ssS (ssS (ssS (ssS (ssS (ssS (ssS ss0))))))))
              · refine JL_loadA (vs := [_, _, _]) 6 ty36 rfl rfl ⟨rfl, rfl, rfl, trivial⟩ ?_
                refine JL_nil ?_
                refine JE_nextA ?_
                refine JA_step [0, 2] (by kernel_rfl) (by simp) ⟨⟨_, rfl, ?_⟩, ⟨_, rfl, ?_⟩, trivial⟩
                · refine JL_loadA (vs := [_, _]) 5 ty44 rfl rfl ⟨rfl, rfl, trivial⟩ ?_
                  refine JL_nil ?_
                  refine JE_nextA ?_
                  refine JA_step [2, 3] (by kernel_rfl) (by simp) ⟨⟨_, rfl, ?_⟩, ⟨_, rfl, ?_⟩, trivial⟩
                  · refine JL_loadA (vs := [_, _, _]) 7 ty36 rfl rfl ⟨rfl, rfl, rfl, trivial⟩ ?_
                    refine JL_nil ?_
                    refine JE_nextA ?_
                    refine JA_step [3] (by kernel_rfl) (by simp) ⟨⟨_, rfl, ?_⟩, trivial⟩
                    refine JL_store (vs := [_, _]) 2 ty44 rfl rfl rfl (AllOne.cons rfl (AllOne.cons rfl AllOne.nil)) rfl (Nat.le_of_ble_eq_true rfl) ?_
                    refine JL_nil_up 74 [box _ _ [_, _], box _ _ [_, _, _], box _ _ [_, _], box _ _ [_, _, _], box _ _ [_, _, _], box _ _ [_, _], box _ _ [_, _, _], box _ _ [_, _, _]] [_, _, _, _, _, _, _, _, _, _, _, _, _, _, _, _] rfl rfl (by simp only [nrmF]; rfl) rfl rfl ?_
                    refine JE_nextA ?_
                    refine JA_step [4] (by kernel_rfl) (by simp) ⟨⟨_, rfl, ?_⟩, trivial⟩
                    refine JL_store (vs := [_, _, _]) 3 ty36 rfl rfl rfl (AllOne.cons rfl (AllOne.cons rfl (AllOne.cons rfl AllOne.nil))) rfl (Nat.le_of_ble_eq_true rfl) ?_
                    refine JL_nil_up 74 [box _ _ [_, _], box _ _ [_, _, _], box _ _ [_, _], box _ _ [_, _, _], box _ _ [_, _, _], box _ _ [_, _], box _ _ [_, _, _], box _ _ [_, _, _]] [_, _, _, _, _, _, _, _, _, _, _, _, _, _, _, _] rfl rfl (by simp only [nrmF]; rfl) rfl rfl ?_
                    refine JE_nextA ?_
                    refine JA_step [5] (by kernel_rfl) (by simp) ⟨⟨_, rfl, ?_⟩, trivial⟩
                    refine JL_store (vs := [_, _, _]) 4 ty36 rfl rfl rfl (AllOne.cons rfl (AllOne.cons rfl (AllOne.cons rfl AllOne.nil))) rfl (Nat.le_of_ble_eq_true rfl) ?_
                    refine JL_nil_up 74 [box _ _ [_, _], box _ _ [_, _, _], box _ _ [_, _], box _ _ [_, _, _], box _ _ [_, _, _], box _ _ [_, _], box _ _ [_, _, _], box _ _ [_, _, _]] [_, _, _, _, _, _, _, _, _, _, _, _, _, _, _, _] rfl rfl (by simp only [nrmF]; rfl) rfl rfl ?_
                    refine JE_nextA ?_
                    refine JA_end (by kernel_rfl) ?_
                    refine JE_block_normal ?_
                    refine JE_dropAt 7 ?_
                    refine JE_norm _ [box _ _ [_, _], box _ _ [_, _, _], box _ _ [_, _], box _ _ [_, _, _], box _ _ [_, _, _], box _ _ [_, _], box _ _ [_, _, _]] [_, _, _, _, _, _, _, _, _, _, _, _, _, _, _, _] rfl rfl rfl ?_
                    refine JE_dropAt 6 ?_
                    refine JE_norm _ [box _ _ [_, _], box _ _ [_, _, _], box _ _ [_, _], box _ _ [_, _, _], box _ _ [_, _, _], box _ _ [_, _]] [_, _, _, _, _, _, _, _, _, _, _, _, _, _, _, _] rfl rfl rfl ?_
                    refine JE_dropAt 5 ?_
                    refine JE_norm _ [box _ _ [_, _], box _ _ [_, _, _], box _ _ [_, _], box _ _ [_, _, _], box _ _ [_, _, _]] [_, _, _, _, _, _, _, _, _, _, _, _, _, _, _, _] rfl rfl rfl ?_
                    refine JE_midS (((opnR n l).getD i dP), some (shQ n l ((opnR n l).getD i dP).1 ((opnR n l).getD i dP).2), some (offQ (shQ n l ((opnR n l).getD i dP).1 ((opnR n l).getD i dP).2)), ad49, cp49, be49, ce49, ad5, c5, be5, e5) (by kernel_rfl) ?_ (by kernel_rfl) ?_
                    · first | exact bal_up hB (.inl (by omega)) | exact bal_up hB (.inr h66)
                    · exact subset_app (subset_cons (by repeat (first | with_reducible exact mm0 | refine mmS ?_)) (subset_cons (by repeat (first | with_reducible exact mm0 | refine mmS ?_)) (subset_cons (by repeat (first | with_reducible exact mm0 | refine mmS ?_)) (subset_cons (by repeat (first | with_reducible exact mm0 | refine mmS ?_)) subset_nil)))) (ssS (ssS (ssS (ssS (ssS (ssS (ssS (ssS ss0))))))))
                  · refine JL_store (vs := [_, _]) 2 ty44 rfl rfl rfl (AllOne.cons rfl (AllOne.cons rfl AllOne.nil)) rfl (Nat.le_of_ble_eq_true rfl) ?_
                    refine JL_nil_up 74 [box _ _ [_, _], box _ _ [_, _, _], box _ _ [_, _], box _ _ [_, _, _], box _ _ [_, _, _], box _ _ [_, _], box _ _ [_, _, _], box _ _ [_, _, _]] [_, _, _, _, _, _, _, _, _, _, _, _, _, _, _, _] rfl rfl (by simp only [nrmF]; rfl) rfl rfl ?_
                    refine JE_nextA ?_
                    refine JA_step [2, 4] (by kernel_rfl) (by simp) ⟨⟨_, rfl, ?_⟩, ⟨_, rfl, ?_⟩, trivial⟩
                    · refine JL_loadA (vs := [_, _, _]) 7 ty36 rfl rfl ⟨rfl, rfl, rfl, trivial⟩ ?_
                      refine JL_nil ?_
                      refine JE_nextA ?_
                      refine JA_step [4] (by kernel_rfl) (by simp) ⟨⟨_, rfl, ?_⟩, trivial⟩
                      refine JL_store (vs := [_, _, _]) 3 ty36 rfl rfl rfl (AllOne.cons rfl (AllOne.cons rfl (AllOne.cons rfl AllOne.nil))) rfl (Nat.le_of_ble_eq_true rfl) ?_
                      refine JL_nil_up 74 [box _ _ [_, _], box _ _ [_, _, _], box _ _ [_, _], box _ _ [_, _, _], box _ _ [_, _, _], box _ _ [_, _], box _ _ [_, _, _], box _ _ [_, _, _]] [_, _, _, _, _, _, _, _, _, _, _, _, _, _, _, _] rfl rfl (by simp only [nrmF]; rfl) rfl rfl ?_
                      refine JE_nextA ?_
                      refine JA_step [5] (by kernel_rfl) (by simp) ⟨⟨_, rfl, ?_⟩, trivial⟩
                      refine JL_store (vs := [_, _, _]) 4 ty36 rfl rfl rfl (AllOne.cons rfl (AllOne.cons rfl (AllOne.cons rfl AllOne.nil))) rfl (Nat.le_of_ble_eq_true rfl) ?_
                      refine JL_nil_up 74 [box _ _ [_, _], box _ _ [_, _, _], box _ _ [_, _], box _ _ [_, _, _], box _ _ [_, _, _], box _ _ [_, _], box _ _ [_, _, _], box _ _ [_, _, _]] [_, _, _, _, _, _, _, _, _, _, _, _, _, _, _, _] rfl rfl (by simp only [nrmF]; rfl) rfl rfl ?_
                      refine JE_nextA ?_
                      refine JA_end (by kernel_rfl) ?_
                      refine JE_block_normal ?_
                      refine JE_dropAt 7 ?_
                      refine JE_norm _ [box _ _ [_, _], box _ _ [_, _, _], box _ _ [_, _], box _ _ [_, _, _], box _ _ [_, _, _], box _ _ [_, _], box _ _ [_, _, _]] [_, _, _, _, _, _, _, _, _, _, _, _, _, _, _, _] rfl rfl rfl ?_
                      refine JE_dropAt 6 ?_
                      refine JE_norm _ [box _ _ [_, _], box _ _ [_, _, _], box _ _ [_, _], box _ _ [_, _, _], box _ _ [_, _, _], box _ _ [_, _]] [_, _, _, _, _, _, _, _, _, _, _, _, _, _, _, _] rfl rfl rfl ?_
                      refine JE_dropAt 5 ?_
                      refine JE_norm _ [box _ _ [_, _], box _ _ [_, _, _], box _ _ [_, _], box _ _ [_, _, _], box _ _ [_, _, _]] [_, _, _, _, _, _, _, _, _, _, _, _, _, _, _, _] rfl rfl rfl ?_
                      refine JE_midS (((opnR n l).getD i dP), some (shQ n l ((opnR n l).getD i dP).1 ((opnR n l).getD i dP).2), some (offQ (shQ n l ((opnR n l).getD i dP).1 ((opnR n l).getD i dP).2)), ad49, cp49, be49, ce49, ad5, c5, be5, e5) (by kernel_rfl) ?_ (by kernel_rfl) ?_
                      · first | exact bal_up hB (.inl (by omega)) | exact bal_up hB (.inr h66)
                      · exact subset_app (subset_cons (by repeat (first | with_reducible exact mm0 | refine mmS ?_)) (subset_cons (by repeat (first | with_reducible exact mm0 | refine mmS ?_)) (subset_cons (by repeat (first | with_reducible exact mm0 | refine mmS ?_)) (subset_cons (by repeat (first | with_reducible exact mm0 | refine mmS ?_)) subset_nil)))) (ssS (ssS (ssS (ssS (ssS (ssS (ssS (ssS ss0))))))))
                    · refine JL_store (vs := [_, _, _]) 3 ty36 rfl rfl rfl (AllOne.cons rfl (AllOne.cons rfl (AllOne.cons rfl AllOne.nil))) rfl (Nat.le_of_ble_eq_true rfl) ?_
                      refine JL_nil_up 74 [box _ _ [_, _], box _ _ [_, _, _], box _ _ [_, _], box _ _ [_, _, _], box _ _ [_, _, _], box _ _ [_, _], box _ _ [_, _, _], box _ _ [_, _, _]] [_, _, _, _, _, _, _, _, _, _, _, _, _, _, _, _] rfl rfl (by simp only [nrmF]; rfl) rfl rfl ?_
                      refine JE_nextA ?_
                      refine JA_step [2] (by kernel_rfl) (by simp) ⟨⟨_, rfl, ?_⟩, trivial⟩
                      refine JL_loadA (vs := [_, _, _]) 7 ty36 rfl rfl ⟨rfl, rfl, rfl, trivial⟩ ?_
                      refine JL_nil ?_
                      refine JE_nextA ?_
                      refine JA_step [5] (by kernel_rfl) (by simp) ⟨⟨_, rfl, ?_⟩, trivial⟩
                      refine JL_store (vs := [_, _, _]) 4 ty36 rfl rfl rfl (AllOne.cons rfl (AllOne.cons rfl (AllOne.cons rfl AllOne.nil))) rfl (Nat.le_of_ble_eq_true rfl) ?_
                      refine JL_nil_up 74 [box _ _ [_, _], box _ _ [_, _, _], box _ _ [_, _], box _ _ [_, _, _], box _ _ [_, _, _], box _ _ [_, _], box _ _ [_, _, _], box _ _ [_, _, _]] [_, _, _, _, _, _, _, _, _, _, _, _, _, _, _, _] rfl rfl (by simp only [nrmF]; rfl) rfl rfl ?_
                      refine JE_nextA ?_
                      refine JA_end (by kernel_rfl) ?_
                      refine JE_block_normal ?_
                      refine JE_dropAt 7 ?_
                      refine JE_norm _ [box _ _ [_, _], box _ _ [_, _, _], box _ _ [_, _], box _ _ [_, _, _], box _ _ [_, _, _], box _ _ [_, _], box _ _ [_, _, _]] [_, _, _, _, _, _, _, _, _, _, _, _, _, _, _, _] rfl rfl rfl ?_
                      refine JE_dropAt 6 ?_
                      refine JE_norm _ [box _ _ [_, _], box _ _ [_, _, _], box _ _ [_, _], box _ _ [_, _, _], box _ _ [_, _, _], box _ _ [_, _]] [_, _, _, _, _, _, _, _, _, _, _, _, _, _, _, _] rfl rfl rfl ?_
                      refine JE_dropAt 5 ?_
                      refine JE_norm _ [box _ _ [_, _], box _ _ [_, _, _], box _ _ [_, _], box _ _ [_, _, _], box _ _ [_, _, _]] [_, _, _, _, _, _, _, _, _, _, _, _, _, _, _, _] rfl rfl rfl ?_
                      refine JE_midS (((opnR n l).getD i dP), some (shQ n l ((opnR n l).getD i dP).1 ((opnR n l).getD i dP).2), some (offQ (shQ n l ((opnR n l).getD i dP).1 ((opnR n l).getD i dP).2)), ad49, cp49, be49, ce49, ad5, c5, be5, e5) (by kernel_rfl) ?_ (by kernel_rfl) ?_
                      · first | exact bal_up hB (.inl (by omega)) | exact bal_up hB (.inr h66)
                      · exact subset_app (subset_cons (by repeat (first | with_reducible exact mm0 | refine mmS ?_)) (subset_cons (by repeat (first | with_reducible exact mm0 | refine mmS ?_)) (subset_cons (by repeat (first | with_reducible exact mm0 | refine mmS ?_)) (subset_cons (by repeat (first | with_reducible exact mm0 | refine mmS ?_)) subset_nil)))) (ssS (ssS (ssS (ssS (ssS (ssS (ssS (ssS ss0))))))))
                · refine JL_loadA (vs := [_, _, _]) 7 ty36 rfl rfl ⟨rfl, rfl, rfl, trivial⟩ ?_
                  refine JL_nil ?_
                  refine JE_nextA ?_
                  refine JA_step [0] (by kernel_rfl) (by simp) ⟨⟨_, rfl, ?_⟩, trivial⟩
                  refine JL_loadA (vs := [_, _]) 5 ty44 rfl rfl ⟨rfl, rfl, trivial⟩ ?_
                  refine JL_nil ?_
                  refine JE_nextA ?_
                  refine JA_step [3] (by kernel_rfl) (by simp) ⟨⟨_, rfl, ?_⟩, trivial⟩
                  refine JL_store (vs := [_, _]) 2 ty44 rfl rfl rfl (AllOne.cons rfl (AllOne.cons rfl AllOne.nil)) rfl (Nat.le_of_ble_eq_true rfl) ?_
                  refine JL_nil_up 74 [box _ _ [_, _], box _ _ [_, _, _], box _ _ [_, _], box _ _ [_, _, _], box _ _ [_, _, _], box _ _ [_, _], box _ _ [_, _, _], box _ _ [_, _, _]] [_, _, _, _, _, _, _, _, _, _, _, _, _, _, _, _] rfl rfl (by simp only [nrmF]; rfl) rfl rfl ?_
                  refine JE_nextA ?_
                  refine JA_step [4] (by kernel_rfl) (by simp) ⟨⟨_, rfl, ?_⟩, trivial⟩
                  refine JL_store (vs := [_, _, _]) 3 ty36 rfl rfl rfl (AllOne.cons rfl (AllOne.cons rfl (AllOne.cons rfl AllOne.nil))) rfl (Nat.le_of_ble_eq_true rfl) ?_
                  refine JL_nil_up 74 [box _ _ [_, _], box _ _ [_, _, _], box _ _ [_, _], box _ _ [_, _, _], box _ _ [_, _, _], box _ _ [_, _], box _ _ [_, _, _], box _ _ [_, _, _]] [_, _, _, _, _, _, _, _, _, _, _, _, _, _, _, _] rfl rfl (by simp only [nrmF]; rfl) rfl rfl ?_
                  refine JE_nextA ?_
                  refine JA_step [5] (by kernel_rfl) (by simp) ⟨⟨_, rfl, ?_⟩, trivial⟩
                  refine JL_store (vs := [_, _, _]) 4 ty36 rfl rfl rfl (AllOne.cons rfl (AllOne.cons rfl (AllOne.cons rfl AllOne.nil))) rfl (Nat.le_of_ble_eq_true rfl) ?_
                  refine JL_nil_up 74 [box _ _ [_, _], box _ _ [_, _, _], box _ _ [_, _], box _ _ [_, _, _], box _ _ [_, _, _], box _ _ [_, _], box _ _ [_, _, _], box _ _ [_, _, _]] [_, _, _, _, _, _, _, _, _, _, _, _, _, _, _, _] rfl rfl (by simp only [nrmF]; rfl) rfl rfl ?_
                  refine JE_nextA ?_
                  refine JA_end (by kernel_rfl) ?_
                  refine JE_block_normal ?_
                  refine JE_dropAt 7 ?_
                  refine JE_norm _ [box _ _ [_, _], box _ _ [_, _, _], box _ _ [_, _], box _ _ [_, _, _], box _ _ [_, _, _], box _ _ [_, _], box _ _ [_, _, _]] [_, _, _, _, _, _, _, _, _, _, _, _, _, _, _, _] rfl rfl rfl ?_
                  refine JE_dropAt 6 ?_
                  refine JE_norm _ [box _ _ [_, _], box _ _ [_, _, _], box _ _ [_, _], box _ _ [_, _, _], box _ _ [_, _, _], box _ _ [_, _]] [_, _, _, _, _, _, _, _, _, _, _, _, _, _, _, _] rfl rfl rfl ?_
                  refine JE_dropAt 5 ?_
                  refine JE_norm _ [box _ _ [_, _], box _ _ [_, _, _], box _ _ [_, _], box _ _ [_, _, _], box _ _ [_, _, _]] [_, _, _, _, _, _, _, _, _, _, _, _, _, _, _, _] rfl rfl rfl ?_
                  refine JE_midS (((opnR n l).getD i dP), some (shQ n l ((opnR n l).getD i dP).1 ((opnR n l).getD i dP).2), some (offQ (shQ n l ((opnR n l).getD i dP).1 ((opnR n l).getD i dP).2)), ad49, cp49, be49, ce49, ad5, c5, be5, e5) (by kernel_rfl) ?_ (by kernel_rfl) ?_
                  · first | exact bal_up hB (.inl (by omega)) | exact bal_up hB (.inr h66)
                  · exact subset_app (subset_cons (by repeat (first | with_reducible exact mm0 | refine mmS ?_)) (subset_cons (by repeat (first | with_reducible exact mm0 | refine mmS ?_)) (subset_cons (by repeat (first | with_reducible exact mm0 | refine mmS ?_)) (subset_cons (by repeat (first | with_reducible exact mm0 | refine mmS ?_)) subset_nil)))) (ssS (ssS (ssS (ssS (ssS (ssS (ssS (ssS ss0))))))))
              · refine JL_loadA (vs := [_, _, _]) 7 ty36 rfl rfl ⟨rfl, rfl, rfl, trivial⟩ ?_
                refine JL_nil ?_
                refine JE_nextA ?_
                refine JA_step [0, 1] (by kernel_rfl) (by simp) ⟨⟨_, rfl, ?_⟩, ⟨_, rfl, ?_⟩, trivial⟩
                · refine JL_loadA (vs := [_, _]) 5 ty44 rfl rfl ⟨rfl, rfl, trivial⟩ ?_
                  refine JL_nil ?_
                  refine JE_nextA ?_
                  refine JA_step [1, 3] (by kernel_rfl) (by simp) ⟨⟨_, rfl, ?_⟩, ⟨_, rfl, ?_⟩, trivial⟩
                  · refine JL_loadA (vs := [_, _, _]) 6 ty36 rfl rfl ⟨rfl, rfl, rfl, trivial⟩ ?_
                    refine JL_nil ?_
                    refine JE_nextA ?_
                    refine JA_step [3] (by kernel_rfl) (by simp) ⟨⟨_, rfl, ?_⟩, trivial⟩
                    refine JL_store (vs := [_, _]) 2 ty44 rfl rfl rfl (AllOne.cons rfl (AllOne.cons rfl AllOne.nil)) rfl (Nat.le_of_ble_eq_true rfl) ?_
                    refine JL_nil_up 74 [box _ _ [_, _], box _ _ [_, _, _], box _ _ [_, _], box _ _ [_, _, _], box _ _ [_, _, _], box _ _ [_, _], box _ _ [_, _, _], box _ _ [_, _, _]] [_, _, _, _, _, _, _, _, _, _, _, _, _, _, _, _] rfl rfl (by simp only [nrmF]; rfl) rfl rfl ?_
                    refine JE_nextA ?_
                    refine JA_step [4] (by kernel_rfl) (by simp) ⟨⟨_, rfl, ?_⟩, trivial⟩
                    refine JL_store (vs := [_, _, _]) 3 ty36 rfl rfl rfl (AllOne.cons rfl (AllOne.cons rfl (AllOne.cons rfl AllOne.nil))) rfl (Nat.le_of_ble_eq_true rfl) ?_
                    refine JL_nil_up 74 [box _ _ [_, _], box _ _ [_, _, _], box _ _ [_, _], box _ _ [_, _, _], box _ _ [_, _, _], box _ _ [_, _], box _ _ [_, _, _], box _ _ [_, _, _]] [_, _, _, _, _, _, _, _, _, _, _, _, _, _, _, _] rfl rfl (by simp only [nrmF]; rfl) rfl rfl ?_
                    refine JE_nextA ?_
                    refine JA_step [5] (by kernel_rfl) (by simp) ⟨⟨_, rfl, ?_⟩, trivial⟩
                    refine JL_store (vs := [_, _, _]) 4 ty36 rfl rfl rfl (AllOne.cons rfl (AllOne.cons rfl (AllOne.cons rfl AllOne.nil))) rfl (Nat.le_of_ble_eq_true rfl) ?_
                    refine JL_nil_up 74 [box _ _ [_, _], box _ _ [_, _, _], box _ _ [_, _], box _ _ [_, _, _], box _ _ [_, _, _], box _ _ [_, _], box _ _ [_, _, _], box _ _ [_, _, _]] [_, _, _, _, _, _, _, _, _, _, _, _, _, _, _, _] rfl rfl (by simp only [nrmF]; rfl) rfl rfl ?_
                    refine JE_nextA ?_
                    refine JA_end (by kernel_rfl) ?_
                    refine JE_block_normal ?_
                    refine JE_dropAt 7 ?_
                    refine JE_norm _ [box _ _ [_, _], box _ _ [_, _, _], box _ _ [_, _], box _ _ [_, _, _], box _ _ [_, _, _], box _ _ [_, _], box _ _ [_, _, _]] [_, _, _, _, _, _, _, _, _, _, _, _, _, _, _, _] rfl rfl rfl ?_
                    refine JE_dropAt 6 ?_
                    refine JE_norm _ [box _ _ [_, _], box _ _ [_, _, _], box _ _ [_, _], box _ _ [_, _, _], box _ _ [_, _, _], box _ _ [_, _]] [_, _, _, _, _, _, _, _, _, _, _, _, _, _, _, _] rfl rfl rfl ?_
                    refine JE_dropAt 5 ?_
                    refine JE_norm _ [box _ _ [_, _], box _ _ [_, _, _], box _ _ [_, _], box _ _ [_, _, _], box _ _ [_, _, _]] [_, _, _, _, _, _, _, _, _, _, _, _, _, _, _, _] rfl rfl rfl ?_
                    refine JE_midS (((opnR n l).getD i dP), some (shQ n l ((opnR n l).getD i dP).1 ((opnR n l).getD i dP).2), some (offQ (shQ n l ((opnR n l).getD i dP).1 ((opnR n l).getD i dP).2)), ad49, cp49, be49, ce49, ad5, c5, be5, e5) (by kernel_rfl) ?_ (by kernel_rfl) ?_
                    · first | exact bal_up hB (.inl (by omega)) | exact bal_up hB (.inr h66)
                    · exact subset_app (subset_cons (by repeat (first | with_reducible exact mm0 | refine mmS ?_)) (subset_cons (by repeat (first | with_reducible exact mm0 | refine mmS ?_)) (subset_cons (by repeat (first | with_reducible exact mm0 | refine mmS ?_)) (subset_cons (by repeat (first | with_reducible exact mm0 | refine mmS ?_)) subset_nil)))) (ssS (ssS (ssS (ssS (ssS (ssS (ssS (ssS ss0))))))))
                  · refine JL_store (vs := [_, _]) 2 ty44 rfl rfl rfl (AllOne.cons rfl (AllOne.cons rfl AllOne.nil)) rfl (Nat.le_of_ble_eq_true rfl) ?_
                    refine JL_nil_up 74 [box _ _ [_, _], box _ _ [_, _, _], box _ _ [_, _], box _ _ [_, _, _], box _ _ [_, _, _], box _ _ [_, _], box _ _ [_, _, _], box _ _ [_, _, _]] [_, _, _, _, _, _, _, _, _, _, _, _, _, _, _, _] rfl rfl (by simp only [nrmF]; rfl) rfl rfl ?_
                    refine JE_nextA ?_
                    refine JA_step [1] (by kernel_rfl) (by simp) ⟨⟨_, rfl, ?_⟩, trivial⟩
                    refine JL_loadA (vs := [_, _, _]) 6 ty36 rfl rfl ⟨rfl, rfl, rfl, trivial⟩ ?_
                    refine JL_nil ?_
                    refine JE_nextA ?_
                    refine JA_step [4] (by kernel_rfl) (by simp) ⟨⟨_, rfl, ?_⟩, trivial⟩
                    refine JL_store (vs := [_, _, _]) 3 ty36 rfl rfl rfl (AllOne.cons rfl (AllOne.cons rfl (AllOne.cons rfl AllOne.nil))) rfl (Nat.le_of_ble_eq_true rfl) ?_
                    refine JL_nil_up 74 [box _ _ [_, _], box _ _ [_, _, _], box _ _ [_, _], box _ _ [_, _, _], box _ _ [_, _, _], box _ _ [_, _], box _ _ [_, _, _], box _ _ [_, _, _]] [_, _, _, _, _, _, _, _, _, _, _, _, _, _, _, _] rfl rfl (by simp only [nrmF]; rfl) rfl rfl ?_
                    refine JE_nextA ?_
                    refine JA_step [5] (by kernel_rfl) (by simp) ⟨⟨_, rfl, ?_⟩, trivial⟩
                    refine JL_store (vs := [_, _, _]) 4 ty36 rfl rfl rfl (AllOne.cons rfl (AllOne.cons rfl (AllOne.cons rfl AllOne.nil))) rfl (Nat.le_of_ble_eq_true rfl) ?_
                    refine JL_nil_up 74 [box _ _ [_, _], box _ _ [_, _, _], box _ _ [_, _], box _ _ [_, _, _], box _ _ [_, _, _], box _ _ [_, _], box _ _ [_, _, _], box _ _ [_, _, _]] [_, _, _, _, _, _, _, _, _, _, _, _, _, _, _, _] rfl rfl (by simp only [nrmF]; rfl) rfl rfl ?_
                    refine JE_nextA ?_
                    refine JA_end (by kernel_rfl) ?_
                    refine JE_block_normal ?_
                    refine JE_dropAt 7 ?_
                    refine JE_norm _ [box _ _ [_, _], box _ _ [_, _, _], box _ _ [_, _], box _ _ [_, _, _], box _ _ [_, _, _], box _ _ [_, _], box _ _ [_, _, _]] [_, _, _, _, _, _, _, _, _, _, _, _, _, _, _, _] rfl rfl rfl ?_
                    refine JE_dropAt 6 ?_
                    refine JE_norm _ [box _ _ [_, _], box _ _ [_, _, _], box _ _ [_, _], box _ _ [_, _, _], box _ _ [_, _, _], box _ _ [_, _]] [_, _, _, _, _, _, _, _, _, _, _, _, _, _, _, _] rfl rfl rfl ?_
                    refine JE_dropAt 5 ?_
                    refine JE_norm _ [box _ _ [_, _], box _ _ [_, _, _], box _ _ [_, _], box _ _ [_, _, _], box _ _ [_, _, _]] [_, _, _, _, _, _, _, _, _, _, _, _, _, _, _, _] rfl rfl rfl ?_
                    refine JE_midS (((opnR n l).getD i dP), some (shQ n l ((opnR n l).getD i dP).1 ((opnR n l).getD i dP).2), some (offQ (shQ n l ((opnR n l).getD i dP).1 ((opnR n l).getD i dP).2)), ad49, cp49, be49, ce49, ad5, c5, be5, e5) (by kernel_rfl) ?_ (by kernel_rfl) ?_
                    · first | exact bal_up hB (.inl (by omega)) | exact bal_up hB (.inr h66)
                    · exact subset_app (subset_cons (by repeat (first | with_reducible exact mm0 | refine mmS ?_)) (subset_cons (by repeat (first | with_reducible exact mm0 | refine mmS ?_)) (subset_cons (by repeat (first | with_reducible exact mm0 | refine mmS ?_)) (subset_cons (by repeat (first | with_reducible exact mm0 | refine mmS ?_)) subset_nil)))) (ssS (ssS (ssS (ssS (ssS (ssS (ssS (ssS ss0))))))))
                · refine JL_loadA (vs := [_, _, _]) 6 ty36 rfl rfl ⟨rfl, rfl, rfl, trivial⟩ ?_
                  refine JL_nil ?_
                  refine JE_nextA ?_
                  refine JA_step [0] (by kernel_rfl) (by simp) ⟨⟨_, rfl, ?_⟩, trivial⟩
                  refine JL_loadA (vs := [_, _]) 5 ty44 rfl rfl ⟨rfl, rfl, trivial⟩ ?_
                  refine JL_nil ?_
                  refine JE_nextA ?_
                  refine JA_step [3] (by kernel_rfl) (by simp) ⟨⟨_, rfl, ?_⟩, trivial⟩
                  refine JL_store (vs := [_, _]) 2 ty44 rfl rfl rfl (AllOne.cons rfl (AllOne.cons rfl AllOne.nil)) rfl (Nat.le_of_ble_eq_true rfl) ?_
                  refine JL_nil_up 74 [box _ _ [_, _], box _ _ [_, _, _], box _ _ [_, _], box _ _ [_, _, _], box _ _ [_, _, _], box _ _ [_, _], box _ _ [_, _, _], box _ _ [_, _, _]] [_, _, _, _, _, _, _, _, _, _, _, _, _, _, _, _] rfl rfl (by simp only [nrmF]; rfl) rfl rfl ?_
                  refine JE_nextA ?_
                  refine JA_step [4] (by kernel_rfl) (by simp) ⟨⟨_, rfl, ?_⟩, trivial⟩
                  refine JL_store (vs := [_, _, _]) 3 ty36 rfl rfl rfl (AllOne.cons rfl (AllOne.cons rfl (AllOne.cons rfl AllOne.nil))) rfl (Nat.le_of_ble_eq_true rfl) ?_
                  refine JL_nil_up 74 [box _ _ [_, _], box _ _ [_, _, _], box _ _ [_, _], box _ _ [_, _, _], box _ _ [_, _, _], box _ _ [_, _], box _ _ [_, _, _], box _ _ [_, _, _]] [_, _, _, _, _, _, _, _, _, _, _, _, _, _, _, _] rfl rfl (by simp only [nrmF]; rfl) rfl rfl ?_
                  refine JE_nextA ?_
                  refine JA_step [5] (by kernel_rfl) (by simp) ⟨⟨_, rfl, ?_⟩, trivial⟩
                  refine JL_store (vs := [_, _, _]) 4 ty36 rfl rfl rfl (AllOne.cons rfl (AllOne.cons rfl (AllOne.cons rfl AllOne.nil))) rfl (Nat.le_of_ble_eq_true rfl) ?_
                  refine JL_nil_up 74 [box _ _ [_, _], box _ _ [_, _, _], box _ _ [_, _], box _ _ [_, _, _], box _ _ [_, _, _], box _ _ [_, _], box _ _ [_, _, _], box _ _ [_, _, _]] [_, _, _, _, _, _, _, _, _, _, _, _, _, _, _, _] rfl rfl (by simp only [nrmF]; rfl) rfl rfl ?_
                  refine JE_nextA ?_
                  refine JA_end (by kernel_rfl) ?_
                  refine JE_block_normal ?_
                  refine JE_dropAt 7 ?_
                  refine JE_norm _ [box _ _ [_, _], box _ _ [_, _, _], box _ _ [_, _], box _ _ [_, _, _], box _ _ [_, _, _], box _ _ [_, _], box _ _ [_, _, _]] [_, _, _, _, _, _, _, _, _, _, _, _, _, _, _, _] rfl rfl rfl ?_
                  refine JE_dropAt 6 ?_
                  refine JE_norm _ [box _ _ [_, _], box _ _ [_, _, _], box _ _ [_, _], box _ _ [_, _, _], box _ _ [_, _, _], box _ _ [_, _]] [_, _, _, _, _, _, _, _, _, _, _, _, _, _, _, _] rfl rfl rfl ?_
                  refine JE_dropAt 5 ?_
                  refine JE_norm _ [box _ _ [_, _], box _ _ [_, _, _], box _ _ [_, _], box _ _ [_, _, _], box _ _ [_, _, _]] [_, _, _, _, _, _, _, _, _, _, _, _, _, _, _, _] rfl rfl rfl ?_
                  refine JE_midS (((opnR n l).getD i dP), some (shQ n l ((opnR n l).getD i dP).1 ((opnR n l).getD i dP).2), some (offQ (shQ n l ((opnR n l).getD i dP).1 ((opnR n l).getD i dP).2)), ad49, cp49, be49, ce49, ad5, c5, be5, e5) (by kernel_rfl) ?_ (by kernel_rfl) ?_
                  · first | exact bal_up hB (.inl (by omega)) | exact bal_up hB (.inr h66)
                  · exact subset_app (subset_cons (by repeat (first | with_reducible exact mm0 | refine mmS ?_)) (subset_cons (by repeat (first | with_reducible exact mm0 | refine mmS ?_)) (subset_cons (by repeat (first | with_reducible exact mm0 | refine mmS ?_)) (subset_cons (by repeat (first | with_reducible exact mm0 | refine mmS ?_)) subset_nil)))) (ssS (ssS (ssS (ssS (ssS (ssS (ssS (ssS ss0))))))))
            · refine JL_pick_f rfl rfl ?_
              refine JL_done_up 74 [box _ _ [_, _], box _ _ [_, _, _], box _ _ [_, _], box _ _ [_, _, _], box _ _ [_, _, _], box _ _ [_, _], box _ _ [_, _, _], box _ _ [_, _, _]] [_, _, _, _, _, _, _, _, _, _, _, _, _, _, _, _] rfl rfl (by simp only [nrmF]; rfl) rfl rfl ?_
              refine JC_false rfl ?_
              refine JC_skip ?_
              refine JE_block_normal ?_
              refine JE_dropAt 7 ?_
              refine JE_norm _ [box _ _ [_, _], box _ _ [_, _, _], box _ _ [_, _], box _ _ [_, _, _], box _ _ [_, _, _], box _ _ [_, _], box _ _ [_, _, _]] [_, _, _, _, _, _, _, _, _, _, _, _, _, _, _, _] rfl rfl rfl ?_
              refine JE_dropAt 6 ?_
              refine JE_norm _ [box _ _ [_, _], box _ _ [_, _, _], box _ _ [_, _], box _ _ [_, _, _], box _ _ [_, _, _], box _ _ [_, _]] [_, _, _, _, _, _, _, _, _, _, _, _, _, _, _, _] rfl rfl rfl ?_
              refine JE_dropAt 5 ?_
              refine JE_norm _ [box _ _ [_, _], box _ _ [_, _, _], box _ _ [_, _], box _ _ [_, _, _], box _ _ [_, _, _]] [_, _, _, _, _, _, _, _, _, _, _, _, _, _, _, _] rfl rfl rfl ?_
              refine JE_midS (p, o1, o2, ad1, c1, be1, e1, ad2, c2, be2, e2) (by kernel_rfl) ?_ (by kernel_rfl) ?_
              · exact bal_no hB (fun e => e.elim (fun e => h61 (by omega)) (fun e => h66 e))
              · exact subset_app (subset_cons (by repeat (first | with_reducible exact mm0 | refine mmS ?_)) (subset_cons (by repeat (first | with_reducible exact mm0 | refine mmS ?_)) (subset_cons (by repeat (first | with_reducible exact mm0 | refine mmS ?_)) (subset_cons (by repeat (first | with_reducible exact mm0 | refine mmS ?_)) subset_nil)))) (ssS (ssS (ssS (ssS (ssS (ssS (ssS (ssS ss0))))))))
        intro u i hB2
        obtain ⟨p2, o3, o4, ad3, c3, be3, e3, ad4, c4, be4, e4⟩ := i
        refine JC_norm ⟨74, [], [_, _, _, _, _, _, _, _, _, _, _, _, _, _, _, _, _, _, _, _, _, _, _, _, _, _, _, _, _, _, _, _, _, _, _, _, _, _, _, _, _, _, _, _, _, _, _, _, _, _, _, _, _, _, _, _, _, _, _, _, _, _, _, _, _, _, _, _, _, _, _, _, _, _]⟩ [box _ _ [_, _], box _ _ [_, _, _], box _ _ [_, _], box _ _ [_, _, _], box _ _ [_, _, _]] [_, _, _, _, _, _, _, _, _, _, _, _] rfl rfl rfl ?_
        refine JC_region ?_
        refine JL_add_to rfl rfl (IntWalk.i64_in _ (by omega)) ?_
        refine JL_move rfl ?_
        refine JL_nil_up 74 [box _ _ [_, _], box _ _ [_, _, _], box _ _ [_, _], box _ _ [_, _, _], box _ _ [_, _, _]] [_, _, _, _, _, _, _, _, _, _, _, _] rfl rfl (by simp only [nrmF]; rfl) rfl rfl ?_
        refine JE_nextS (i + 1, p2, o3, o4, ad3, c3, be3, e3, ad4, c4, be4, e4) (by kernel_rfl) ?_ ?_ (by kernel_rfl) ?_
        · exact ⟨by omega, hB2⟩
        · first | omega | (dsimp only; omega)
        · exact subset_app (subset_cons (by repeat (first | with_reducible exact mm0 | refine mmS ?_)) (subset_cons (by repeat (first | with_reducible exact mm0 | refine mmS ?_)) (subset_cons (by repeat (first | with_reducible exact mm0 | refine mmS ?_)) (subset_cons (by repeat (first | with_reducible exact mm0 | refine mmS ?_)) subset_nil)))) (ssS (ssS (ssS (ssS (ssS (ssS (ssS (ssS ss0))))))))
      · refine JL_done_up 74 [box _ _ [_, _], box _ _ [_, _, _], box _ _ [_, _], box _ _ [_, _, _], box _ _ [_, _, _]] [_, _, _, _, _, _, _, _] rfl rfl (by simp only [nrmF]; rfl) rfl rfl ?_
        refine JC_seq ?_
        refine JC_false rfl ?_
        refine JC_exit ?_
        refine JE_then_exit ?_
        refine JE_nextS_exit ?_
        refine JE_block_exit ?_
        refine JE_then ?_
        refine JC_seq ?_
        refine JC_drawA mixed 5 rfl ?_
        refine JA_step [0, 1] (by kernel_rfl) (by simp) ⟨⟨_, rfl, ?_⟩, ⟨_, rfl, ?_⟩, trivial⟩
        · refine JL_loadA (vs := [_, _]) 2 ty44 rfl rfl ⟨rfl, rfl, trivial⟩ ?_
          refine JL_nil ?_
          refine JE_nextA ?_
          refine JA_step [1, 2] (by kernel_rfl) (by simp) ⟨⟨_, rfl, ?_⟩, ⟨_, rfl, ?_⟩, trivial⟩
          · refine JL_loadA (vs := [_, _, _]) 3 ty36 rfl rfl ⟨rfl, rfl, rfl, trivial⟩ ?_
            refine JL_nil ?_
            refine JE_nextA ?_
            refine JA_step [2] (by kernel_rfl) (by simp) ⟨⟨_, rfl, ?_⟩, trivial⟩
            refine JL_store (vs := [_, _]) 0 ty44 rfl rfl rfl (AllOne.cons rfl (AllOne.cons rfl AllOne.nil)) rfl (Nat.le_of_ble_eq_true rfl) ?_
            refine JL_nil_up 74 [box _ _ [_, _], box _ _ [_, _, _], box _ _ [_, _], box _ _ [_, _, _], box _ _ [_, _, _]] [_, _, _, _, _, _, _, _] rfl rfl (by simp only [nrmF]; rfl) rfl rfl ?_
            refine JE_nextA ?_
            refine JA_step [3] (by kernel_rfl) (by simp) ⟨⟨_, rfl, ?_⟩, trivial⟩
            refine JL_store (vs := [_, _, _]) 1 ty36 rfl rfl rfl (AllOne.cons rfl (AllOne.cons rfl (AllOne.cons rfl AllOne.nil))) rfl (Nat.le_of_ble_eq_true rfl) ?_
            refine JL_nil_up 74 [box _ _ [_, _], box _ _ [_, _, _], box _ _ [_, _], box _ _ [_, _, _], box _ _ [_, _, _]] [_, _, _, _, _, _, _, _] rfl rfl (by simp only [nrmF]; rfl) rfl rfl ?_
            refine JE_nextA ?_
            refine JA_step [4] (by kernel_rfl) (by simp) ⟨⟨_, rfl, ?_⟩, trivial⟩
            refine JL_assign rfl ?_
            refine JL_nil_up 74 [box _ _ [_, _], box _ _ [_, _, _], box _ _ [_, _], box _ _ [_, _, _], box _ _ [_, _, _]] [_, _, _, _, _, _, _, _] rfl rfl (by simp only [nrmF]; rfl) rfl rfl ?_
            refine JE_nextA ?_
            refine JA_end (by kernel_rfl) ?_
            refine JE_then ?_
            refine JC_ret ?_
            have hbe : balE n l = 0 := balE_0 (Classical.byContradiction h25) (by omega)
            have hie : i = (opnR n l).length := by omega
            have hbF : balF n l = (p, o1, o2) := by unfold balF; rw [← hB, hie]
            refine JE_ret (vs := [_, _, _]) [vCells ad1 (u32s (fnum o1)), vCells be1 (u32s (fden o1))] Tryz.results21 ⟨RV.cell (vs := [_, _]) 0 ty44 rfl rfl ⟨rfl, rfl, trivial⟩, RV.cell (vs := [_, _, _]) 1 ty36 rfl rfl ⟨rfl, rfl, rfl, trivial⟩, rfl, rfl⟩ ?_ ?_
            · rw [(bal_some hbe).1, (bal_some hbe).2, hbF, hbe]; exact ⟨ad1, c1, be1, e1, rfl, rfl⟩
            · exact (all_cons (by repeat (first | with_reducible exact mm0 | refine mmS ?_)) (all_cons (by repeat (first | with_reducible exact mm0 | refine mmS ?_)) all_nil))
          · refine JL_store (vs := [_, _]) 0 ty44 rfl rfl rfl (AllOne.cons rfl (AllOne.cons rfl AllOne.nil)) rfl (Nat.le_of_ble_eq_true rfl) ?_
            refine JL_nil_up 74 [box _ _ [_, _], box _ _ [_, _, _], box _ _ [_, _], box _ _ [_, _, _], box _ _ [_, _, _]] [_, _, _, _, _, _, _, _] rfl rfl (by simp only [nrmF]; rfl) rfl rfl ?_
            refine JE_nextA ?_
            refine JA_step [1] (by kernel_rfl) (by simp) ⟨⟨_, rfl, ?_⟩, trivial⟩
            refine JL_loadA (vs := [_, _, _]) 3 ty36 rfl rfl ⟨rfl, rfl, rfl, trivial⟩ ?_
            refine JL_nil ?_
            refine JE_nextA ?_
            refine JA_step [3] (by kernel_rfl) (by simp) ⟨⟨_, rfl, ?_⟩, trivial⟩
            refine JL_store (vs := [_, _, _]) 1 ty36 rfl rfl rfl (AllOne.cons rfl (AllOne.cons rfl (AllOne.cons rfl AllOne.nil))) rfl (Nat.le_of_ble_eq_true rfl) ?_
            refine JL_nil_up 74 [box _ _ [_, _], box _ _ [_, _, _], box _ _ [_, _], box _ _ [_, _, _], box _ _ [_, _, _]] [_, _, _, _, _, _, _, _] rfl rfl (by simp only [nrmF]; rfl) rfl rfl ?_
            refine JE_nextA ?_
            refine JA_step [4] (by kernel_rfl) (by simp) ⟨⟨_, rfl, ?_⟩, trivial⟩
            refine JL_assign rfl ?_
            refine JL_nil_up 74 [box _ _ [_, _], box _ _ [_, _, _], box _ _ [_, _], box _ _ [_, _, _], box _ _ [_, _, _]] [_, _, _, _, _, _, _, _] rfl rfl (by simp only [nrmF]; rfl) rfl rfl ?_
            refine JE_nextA ?_
            refine JA_end (by kernel_rfl) ?_
            refine JE_then ?_
            refine JC_ret ?_
            have hbe : balE n l = 0 := balE_0 (Classical.byContradiction h25) (by omega)
            have hie : i = (opnR n l).length := by omega
            have hbF : balF n l = (p, o1, o2) := by unfold balF; rw [← hB, hie]
            refine JE_ret (vs := [_, _, _]) [vCells ad1 (u32s (fnum o1)), vCells be1 (u32s (fden o1))] Tryz.results21 ⟨RV.cell (vs := [_, _]) 0 ty44 rfl rfl ⟨rfl, rfl, trivial⟩, RV.cell (vs := [_, _, _]) 1 ty36 rfl rfl ⟨rfl, rfl, rfl, trivial⟩, rfl, rfl⟩ ?_ ?_
            · rw [(bal_some hbe).1, (bal_some hbe).2, hbF, hbe]; exact ⟨ad1, c1, be1, e1, rfl, rfl⟩
            · exact (all_cons (by repeat (first | with_reducible exact mm0 | refine mmS ?_)) (all_cons (by repeat (first | with_reducible exact mm0 | refine mmS ?_)) all_nil))
        · refine JL_loadA (vs := [_, _, _]) 3 ty36 rfl rfl ⟨rfl, rfl, rfl, trivial⟩ ?_
          refine JL_nil ?_
          refine JE_nextA ?_
          refine JA_step [0] (by kernel_rfl) (by simp) ⟨⟨_, rfl, ?_⟩, trivial⟩
          refine JL_loadA (vs := [_, _]) 2 ty44 rfl rfl ⟨rfl, rfl, trivial⟩ ?_
          refine JL_nil ?_
          refine JE_nextA ?_
          refine JA_step [2] (by kernel_rfl) (by simp) ⟨⟨_, rfl, ?_⟩, trivial⟩
          refine JL_store (vs := [_, _]) 0 ty44 rfl rfl rfl (AllOne.cons rfl (AllOne.cons rfl AllOne.nil)) rfl (Nat.le_of_ble_eq_true rfl) ?_
          refine JL_nil_up 74 [box _ _ [_, _], box _ _ [_, _, _], box _ _ [_, _], box _ _ [_, _, _], box _ _ [_, _, _]] [_, _, _, _, _, _, _, _] rfl rfl (by simp only [nrmF]; rfl) rfl rfl ?_
          refine JE_nextA ?_
          refine JA_step [3] (by kernel_rfl) (by simp) ⟨⟨_, rfl, ?_⟩, trivial⟩
          refine JL_store (vs := [_, _, _]) 1 ty36 rfl rfl rfl (AllOne.cons rfl (AllOne.cons rfl (AllOne.cons rfl AllOne.nil))) rfl (Nat.le_of_ble_eq_true rfl) ?_
          refine JL_nil_up 74 [box _ _ [_, _], box _ _ [_, _, _], box _ _ [_, _], box _ _ [_, _, _], box _ _ [_, _, _]] [_, _, _, _, _, _, _, _] rfl rfl (by simp only [nrmF]; rfl) rfl rfl ?_
          refine JE_nextA ?_
          refine JA_step [4] (by kernel_rfl) (by simp) ⟨⟨_, rfl, ?_⟩, trivial⟩
          refine JL_assign rfl ?_
          refine JL_nil_up 74 [box _ _ [_, _], box _ _ [_, _, _], box _ _ [_, _], box _ _ [_, _, _], box _ _ [_, _, _]] [_, _, _, _, _, _, _, _] rfl rfl (by simp only [nrmF]; rfl) rfl rfl ?_
          refine JE_nextA ?_
          refine JA_end (by kernel_rfl) ?_
          refine JE_then ?_
          refine JC_ret ?_
          have hbe : balE n l = 0 := balE_0 (Classical.byContradiction h25) (by omega)
          have hie : i = (opnR n l).length := by omega
          have hbF : balF n l = (p, o1, o2) := by unfold balF; rw [← hB, hie]
          refine JE_ret (vs := [_, _, _]) [vCells ad1 (u32s (fnum o1)), vCells be1 (u32s (fden o1))] Tryz.results21 ⟨RV.cell (vs := [_, _]) 0 ty44 rfl rfl ⟨rfl, rfl, trivial⟩, RV.cell (vs := [_, _, _]) 1 ty36 rfl rfl ⟨rfl, rfl, rfl, trivial⟩, rfl, rfl⟩ ?_ ?_
          · rw [(bal_some hbe).1, (bal_some hbe).2, hbF, hbe]; exact ⟨ad1, c1, be1, e1, rfl, rfl⟩
          · exact (all_cons (by repeat (first | with_reducible exact mm0 | refine mmS ?_)) (all_cons (by repeat (first | with_reducible exact mm0 | refine mmS ?_)) all_nil))

end Go.Fw.K
