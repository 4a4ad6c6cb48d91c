/- Walks through functions of the given program: each meets its contract. (Printed by a program of this repo.) -/
import Derived.Test.YtgfldmhpindbpaaGreatDoorC4
import Derived.Test.YtgfldmhpindbpaaGreatDoorIso
import Derived.Test.YtgfldmhpindbpaaGreatDoorProg
namespace Go.Fw.C6
open Go Go.RowKit Go.Proofs Go.Nat9 Go.Fw
attribute [local irreducible] JC JL JE
theorem ca23 : callable Tryz.prog 23 = true := by kernel_rfl
theorem ca31 : callable Tryz.prog 31 = true := by kernel_rfl
theorem ca54 : callable Tryz.prog 54 = true := by kernel_rfl
theorem sl22 : slOf Tryz.prog 22 = some (3, 1, 8, [.int .i64 0]) := by kernel_rfl
theorem sl23 : slOf Tryz.prog 23 = some (30, 3, 56, [.bool false, .slice none 0 0, .slice none 0 0]) := by kernel_rfl
theorem ty30 : tyOf Tryz.prog 30 = some (true, 3) := by kernel_rfl
theorem z30 : zeroOf Tryz.prog 30 = some [.bool false, .slice none 0 0, .slice none 0 0] := by kernel_rfl
end Go.Fw.C6
namespace Go.Fw.K
open Go Go.RowKit Go.Proofs Go.Nat9 Go.Fw Go.Fw.C6
attribute [local irreducible] JC JL JE

set_option maxHeartbeats 1000000 in
theorem rfit_con {adv adw : Option Addr} {cv cw : Nat} {V W : List Int} :
    ConF Tryz.prog 30 [.slice adv V.length cv, .slice adw W.length cw] [vCells adv (i64s V), vCells adw (i64s W)]
      (FRS (rfitL V W) (chk V W)) := by
  refine ConF_of Tryz.func30 rfl 69 _ rfl rfl ?_
  intro w0
  refine JC_norm ⟨69, [], [_, _, _, _, _, _, _, _, _, _, _, _, _, _, _, _, _, _, _, _, _, _, _, _, _, _, _, _, _, _, _, _, _, _, _, _, _, _, _, _, _, _, _, _, _, _, _, _, _, _, _, _, _, _, _, _, _, _, _, _, _, _, _, _, _, _, _, _, _]⟩ [] [_, _] rfl rfl rfl ?_
  refine JC_seq ?_
  refine JC_region ?_
  refine JL_assign rfl ?_
  refine JL_assign rfl ?_
  refine JL_done_up 69 [] [_, _] rfl rfl (by simp only [nrmF]; rfl) rfl rfl ?_
  refine JC_seq ?_
  refine JC_seq ?_
  refine JC_region ?_
  refine JL_move rfl ?_
  refine JL_move rfl ?_
  refine JL_callF' (Asks.cons (holds_of_mem (by repeat (first | with_reducible exact mm0 | refine mmS ?_))) (Asks.cons (holds_of_mem (by repeat (first | with_reducible exact mm0 | refine mmS ?_))) Asks.nil)) (rdata_con) rfl ca23 ⟨rfl, rfl, rfl⟩ ?_
  rintro _ _ ⟨rfl, rfl⟩
  refine JL_assign rfl ?_
  refine JL_done_up 69 [] [_, _] rfl rfl (by simp only [nrmF]; rfl) rfl rfl ?_
  refine JC_seq ?_
  refine JC_region ?_
  refine JL_move rfl ?_
  refine JL_neq rfl rfl ?_
  refine JL_split (fun h18 => ?_) (fun h18 => ?_)
  · refine JL_done_up 69 [] [_, _] rfl rfl (by simp only [nrmF]; rfl) rfl rfl ?_
    refine JC_true rfl ?_
    refine JC_seq ?_
    refine JC_region ?_
    refine JL_move rfl ?_
    refine JL_assign rfl ?_
    refine JL_assign rfl ?_
    refine JL_done_up 69 [] [_, _] rfl rfl (by simp only [nrmF]; rfl) rfl rfl ?_
    refine JC_ret ?_
    refine JE_then_ret ?_
    refine JE_nilView2 ?_
    refine JE_ret (vs := [_, _]) [vCells none (fcells []), vFes []] Tryz.results30 ⟨rfl, rfl, rfl⟩ ?_ ?_
    · rw [rfitL, if_neg h18]; exact ⟨none, 0, [], rfl, rfl, rfl⟩
    · exact (all_cons (by repeat (first | with_reducible exact mm0 | refine mmS ?_)) (all_cons (by repeat (first | with_reducible exact mm0 | refine mmS ?_)) all_nil))
  · refine JL_done_up 69 [] [_, _] rfl rfl (by simp only [nrmF]; rfl) rfl rfl ?_
    refine JC_false rfl ?_
    refine JC_skip ?_
    refine JE_then ?_
    refine JC_seq ?_
    have hz : chk V W = 0 := Classical.byContradiction h18
    obtain ⟨hn, hvw, hok⟩ := chk_zero hz
    refine JC_region ?_
    refine JL_assign rfl ?_
    refine JL_done_up 69 [] [_, _] rfl rfl (by simp only [nrmF]; rfl) rfl rfl ?_
    refine JC_seq ?_
    refine JC_seq ?_
    refine JC_region ?_
    refine JL_assign rfl ?_
    refine JL_done_up 69 [] [_, _] rfl rfl (by simp only [nrmF]; rfl) rfl rfl ?_
    refine JC_block ?_
    refine JC_fesNil ?_
    refine JC_addNil 30 3 ?_
    refine JC_norm ⟨69, [], [_, _, _, _, _, _, _, _, _, _, _, _, _, _, _, _, _, _, _, _, _, _, _, _, _, _, _, _, _, _, _, _, _, _, _, _, _, _, _, _, _, _, _, _, _, _, _, _, _, _, _, _, _, _, _, _, _, _, _, _, _, _, _, _, _, _, _, _, _]⟩ [osl _ _ _ _ _ _] [_, _, _] rfl rfl rfl ?_
    refine JC_loopS ((Nat) × (List Fe) × (Option Addr) × (Nat)) (fun (k, l, ad, cap) => k ≤ V.length ∧ l.map (·.q) = (List.range k).map (fun k => lst V W V.length k k)) (fun (k, l, ad, cap) => V.length - k) (fun u (k, l, ad, cap) => [none, none, none, none, none, none, none, some (.slice ad l.length cap), some (.int .i64 (k : Nat)), some (u 9), some (u 10), some (u 11), some (u 12), some (u 13), none, none, none, none, none, none, some (u 20), some (u 21), some (u 22), some (u 23), some (u 24), some (u 25), some (u 26), some (u 27), some (u 28), some (u 29), some (u 30), some (u 31), some (u 32), some (u 33), some (u 34), some (u 35), some (u 36), some (u 37), some (u 38), some (u 39), some (u 40), some (u 41), some (u 42), some (u 43), some (u 44), some (u 45), some (u 46), some (u 47), some (u 48), some (u 49), some (u 50), some (u 51), some (u 52), some (u 53), some (u 54), some (u 55), some (u 56), some (u 57), some (u 58), some (u 59), some (u 60), some (u 61), some (u 62), some (u 63), some (u 64), some (u 65), some (u 66), some (u 67), none]) (fun (k, l, ad, cap) => [some (osl ad l.length cap 30 3 (fcells l))]) (fun (k, l, ad, cap) => [(true, vFes l)]) (0, [], none, 0) (by kernel_rfl) ?_ (by kernel_rfl) ?_ ?_
    · exact ⟨Nat.zero_le _, rfl⟩
    · exact (subset_cons (by repeat (first | with_reducible exact mm0 | refine mmS ?_)) subset_nil)
    intro u i hC
    obtain ⟨k, l, ad, cap⟩ := i
    obtain ⟨hk, hl⟩ := hC
    refine JC_norm ⟨69, [], [_, _, _, _, _, _, _, _, _, _, _, _, _, _, _, _, _, _, _, _, _, _, _, _, _, _, _, _, _, _, _, _, _, _, _, _, _, _, _, _, _, _, _, _, _, _, _, _, _, _, _, _, _, _, _, _, _, _, _, _, _, _, _, _, _, _, _, _, _]⟩ [osl _ _ _ _ _ _] [_, _, _, _] rfl rfl rfl ?_
    refine JC_seq ?_
    refine JC_seq ?_
    refine JC_region ?_
    refine JL_move rfl ?_
    refine JL_move rfl ?_
    refine JL_len sl22 rfl ?_
    refine JL_lss rfl rfl ?_
    refine JL_split (fun h23 => ?_) (fun h23 => ?_)
    · refine JL_done_up 69 [osl _ _ _ _ _ _] [_, _, _, _] rfl rfl (by simp only [nrmF]; rfl) rfl rfl ?_
      refine JC_true rfl ?_
      refine JC_skip ?_
      refine JE_then ?_
      refine JC_seq ?_
      refine JC_block ?_
      refine JC_seq ?_
      refine JC_region ?_
      refine JL_alloc z30 (fun b9 => ?_)
      refine JL_done_up 69 [osl _ _ _ _ _ _, box _ _ [_, _, _]] [_, _, _, _] rfl rfl (by simp only [nrmF]; rfl) rfl rfl ?_
      refine JC_seq ?_
      refine JC_seq ?_
      refine JC_region ?_
      refine JL_assign rfl ?_
      refine JL_done_up 69 [osl _ _ _ _ _ _, box _ _ [_, _, _]] [_, _, _, _] rfl rfl (by simp only [nrmF]; rfl) rfl rfl ?_
      refine JC_block ?_
      refine JC_noneViews ?_
      refine JC_loopS ((Nat) × (Option Rat) × (Option Addr) × (Nat) × (Option Addr) × (Nat)) (fun (i, o, ad0, c0, be0, e0) => i ≤ k + 1 ∧ o = lsto V W V.length k i) (fun (i, o, ad0, c0, be0, e0) => k + 1 - i) (fun u (i, o, ad0, c0, be0, e0) => [none, none, none, none, none, none, none, none, none, none, some (.int .i64 (i : Nat)), some (u 11), some (u 12), some (u 13), none, none, none, none, none, none, none, none, none, none, none, none, some (u 26), some (u 27), some (u 28), some (u 29), some (u 30), some (u 31), some (u 32), some (u 33), some (u 34), some (u 35), some (u 36), some (u 37), some (u 38), some (u 39), some (u 40), some (u 41), some (u 42), some (u 43), some (u 44), some (u 45), some (u 46), some (u 47), some (u 48), some (u 49), some (u 50), some (u 51), some (u 52), some (u 53), some (u 54), some (u 55), some (u 56), some (u 57), some (u 58), some (u 59), some (u 60), some (u 61), some (u 62), some (u 63), none, none, none, none, none]) (fun (i, o, ad0, c0, be0, e0) => [none, some (box b9 30 [.bool (fneg (o)), .slice ad0 (fnum (o)).length c0, .slice be0 (fden (o)).length e0])]) (fun (i, o, ad0, c0, be0, e0) => [(true, vCells ad0 (u32s (fnum (o)))), (true, vCells be0 (u32s (fden (o))))]) (0, none, none, 0, none, 0) (by kernel_rfl) ?_ (by kernel_rfl) ?_ ?_
      · exact ⟨Nat.zero_le _, rfl⟩
      · exact (subset_cons (by repeat (first | with_reducible exact mm0 | refine mmS ?_)) (subset_cons (by repeat (first | with_reducible exact mm0 | refine mmS ?_)) subset_nil))
      intro u i hC
      obtain ⟨i, o, ad0, c0, be0, e0⟩ := i
      obtain ⟨hi, ho⟩ := hC
      refine JC_norm ⟨69, [], [_, _, _, _, _, _, _, _, _, _, _, _, _, _, _, _, _, _, _, _, _, _, _, _, _, _, _, _, _, _, _, _, _, _, _, _, _, _, _, _, _, _, _, _, _, _, _, _, _, _, _, _, _, _, _, _, _, _, _, _, _, _, _, _, _, _, _, _, _]⟩ [osl _ _ _ _ _ _, box _ _ [_, _, _]] [_, _, _, _, _, _, _, _] rfl rfl rfl ?_
      refine JC_seq ?_
      refine JC_seq ?_
      refine JC_region ?_
      refine JL_move rfl ?_
      refine JL_move rfl ?_
      refine JL_leq rfl rfl ?_
      refine JL_split (fun h28 => ?_) (fun h28 => ?_)
      · refine JL_done_up 69 [osl _ _ _ _ _ _, box _ _ [_, _, _]] [_, _, _, _, _, _, _, _] rfl rfl (by simp only [nrmF]; rfl) rfl rfl ?_
        refine JC_true rfl ?_
        refine JC_skip ?_
        refine JE_then ?_
        refine JC_seq ?_
        refine JC_block ?_
        refine JC_seq ?_
        have hik : i ≤ k := by omega
        refine JC_region ?_
        refine JL_move rfl ?_
        refine JL_move rfl ?_
        refine JL_move rfl ?_
        refine JL_move rfl ?_
        refine JL_add_to rfl rfl (IntWalk.i64_in _ (by omega)) ?_
        rw [show ((k : Int) + 1 : Int) = ((k + 1 : Nat) : Int) from by omega]
        refine JL_callF' (Asks.cons (by first | exact holds_of_mem (by repeat (first | with_reducible exact mm0 | refine mmS ?_)) | (exact holds_of_own 0 rfl)) (Asks.cons (by first | exact holds_of_mem (by repeat (first | with_reducible exact mm0 | refine mmS ?_)) | (exact holds_of_own 0 rfl)) Asks.nil)) (rmean_con (i := i) (j := k + 1) hz (by omega) (by omega)) rfl ca54 ⟨rfl, rfl, rfl, rfl, rfl⟩ ?_
        rintro _ _ ⟨ad36, cp36, be36, ce36, rfl, rfl⟩
        refine JL_alloc z30 (fun b11 => ?_)
        refine JL_store (vs := [_, _, _]) 2 ty30 rfl rfl rfl (AllOne.cons rfl (AllOne.cons rfl (AllOne.cons rfl AllOne.nil))) rfl (Nat.le_of_ble_eq_true rfl) ?_
        refine JL_done_up 69 [osl _ _ _ _ _ _, box _ _ [_, _, _], box _ _ [_, _, _]] [_, _, _, _, _, _, _, _, _, _] rfl rfl (by simp only [nrmF]; rfl) rfl rfl ?_
        refine JC_seq ?_
        refine JC_seq ?_
        refine JC_region ?_
        refine JL_move rfl ?_
        refine JL_add_to rfl rfl (IntWalk.i64_in _ (by omega)) ?_
        rw [show ((k : Int) + 2 : Int) = ((k + 2 + 0 : Nat) : Int) from by omega]
        refine JL_assign rfl ?_
        refine JL_done_up 69 [osl _ _ _ _ _ _, box _ _ [_, _, _], box _ _ [_, _, _]] [_, _, _, _, _, _, _, _, _, _] rfl rfl (by simp only [nrmF]; rfl) rfl rfl ?_
        refine JC_block ?_
        refine JC_loopS ((Nat) × (Rat) × (Option Addr) × (Nat) × (Option Addr) × (Nat)) (fun (d, q, ad1, c1, be1, e1) => k + 1 + d ≤ V.length ∧ q = mst V W i k d) (fun (d, q, ad1, c1, be1, e1) => V.length - d) (fun u (d, q, ad1, c1, be1, e1) => [none, none, none, none, none, none, none, none, none, none, none, none, some (.int .i64 ((k + 2 + d : Nat) : Int)), some (u 13), none, none, none, none, none, none, none, none, none, none, none, none, none, none, none, none, none, none, none, none, none, none, none, none, none, some (u 39), some (u 40), some (u 41), some (u 42), some (u 43), some (u 44), some (u 45), some (u 46), some (u 47), some (u 48), some (u 49), some (u 50), some (u 51), some (u 52), some (u 53), some (u 54), none, none, none, none, none, none, none, none, none, none, none, none, none, none]) (fun (d, q, ad1, c1, be1, e1) => [none, none, some (box b11 30 [.bool (fneg (some q)), .slice ad1 (fnum (some q)).length c1, .slice be1 (fden (some q)).length e1])]) (fun (d, q, ad1, c1, be1, e1) => [(true, vCells ad1 (u32s (fnum (some q)))), (true, vCells be1 (u32s (fden (some q))))]) (0, meanq V W i (k + 1), ad36, cp36, be36, ce36) (by kernel_rfl) ?_ (by kernel_rfl) ?_ ?_
        · exact ⟨by omega, rfl⟩
        · exact (subset_cons (by repeat (first | with_reducible exact mm0 | refine mmS ?_)) (subset_cons (by repeat (first | with_reducible exact mm0 | refine mmS ?_)) subset_nil))
        intro u i hC
        obtain ⟨d, q, ad1, c1, be1, e1⟩ := i
        obtain ⟨hd, hq⟩ := hC
        refine JC_norm ⟨69, [], [_, _, _, _, _, _, _, _, _, _, _, _, _, _, _, _, _, _, _, _, _, _, _, _, _, _, _, _, _, _, _, _, _, _, _, _, _, _, _, _, _, _, _, _, _, _, _, _, _, _, _, _, _, _, _, _, _, _, _, _, _, _, _, _, _, _, _, _, _]⟩ [osl _ _ _ _ _ _, box _ _ [_, _, _], box _ _ [_, _, _]] [_, _, _, _, _, _, _, _, _, _, _, _] rfl rfl rfl ?_
        refine JC_seq ?_
        refine JC_seq ?_
        refine JC_region ?_
        refine JL_move rfl ?_
        refine JL_move rfl ?_
        refine JL_len sl22 rfl ?_
        refine JL_leq rfl rfl ?_
        refine JL_split (fun h42 => ?_) (fun h42 => ?_)
        · refine JL_done_up 69 [osl _ _ _ _ _ _, box _ _ [_, _, _], box _ _ [_, _, _]] [_, _, _, _, _, _, _, _, _, _, _, _] rfl rfl (by simp only [nrmF]; rfl) rfl rfl ?_
          refine JC_true rfl ?_
          refine JC_skip ?_
          refine JE_then ?_
          refine JC_seq ?_
          refine JC_block ?_
          refine JC_seq ?_
          refine JC_region ?_
          refine JL_move rfl ?_
          refine JL_move rfl ?_
          refine JL_move rfl ?_
          refine JL_move rfl ?_
          refine JL_callF' (Asks.cons (by first | exact holds_of_mem (by repeat (first | with_reducible exact mm0 | refine mmS ?_)) | (exact holds_of_own 0 rfl)) (Asks.cons (by first | exact holds_of_mem (by repeat (first | with_reducible exact mm0 | refine mmS ?_)) | (exact holds_of_own 0 rfl)) Asks.nil)) (rmean_con (i := i) (j := k + 2 + d) hz (by omega) (by omega)) rfl ca54 ⟨rfl, rfl, rfl, rfl, rfl⟩ ?_
          rintro _ _ ⟨ad49, cp49, be49, ce49, rfl, rfl⟩
          refine JL_alloc z30 (fun b13 => ?_)
          refine JL_store (vs := [_, _, _]) 3 ty30 rfl rfl rfl (AllOne.cons rfl (AllOne.cons rfl (AllOne.cons rfl AllOne.nil))) rfl (Nat.le_of_ble_eq_true rfl) ?_
          refine JL_done_up 69 [osl _ _ _ _ _ _, box _ _ [_, _, _], box _ _ [_, _, _], box _ _ [_, _, _]] [_, _, _, _, _, _, _, _, _, _, _, _, _, _] rfl rfl (by simp only [nrmF]; rfl) rfl rfl ?_
          refine JC_seq ?_
          refine JC_region ?_
          refine JL_loadA (vs := [_, _, _]) 3 ty30 rfl rfl ⟨rfl, rfl, rfl, trivial⟩ ?_
          refine JL_loadA (vs := [_, _, _]) 2 ty30 rfl rfl ⟨rfl, rfl, rfl, trivial⟩ ?_
          refine JL_callF' (Asks.cons (by first | exact holds_of_mem (by repeat (first | with_reducible exact mm0 | refine mmS ?_)) | (exact holds_of_own 0 rfl)) (Asks.cons (by first | exact holds_of_mem (by repeat (first | with_reducible exact mm0 | refine mmS ?_)) | (exact holds_of_own 0 rfl)) (Asks.cons (by first | exact holds_of_mem (by repeat (first | with_reducible exact mm0 | refine mmS ?_)) | (exact holds_of_own 0 rfl)) (Asks.cons (by first | exact holds_of_mem (by repeat (first | with_reducible exact mm0 | refine mmS ?_)) | (exact holds_of_own 0 rfl)) Asks.nil)))) (rcmpq_con (FIn.some ((qs_meanq hz (by omega)).mono (by decide))) (FIn.some (by rw [hq]; exact (qs_mst hz hd).mono (by decide)))) rfl ca31 ⟨rfl, rfl, rfl⟩ ?_
          rintro _ _ ⟨rfl, rfl⟩
          refine JL_gtr rfl rfl ?_
          refine JL_split (fun h53 => ?_) (fun h53 => ?_)
          · refine JL_done_up 69 [osl _ _ _ _ _ _, box _ _ [_, _, _], box _ _ [_, _, _], box _ _ [_, _, _]] [_, _, _, _, _, _, _, _, _, _, _, _, _, _] rfl rfl (by simp only [nrmF]; rfl) rfl rfl ?_
            refine JC_true rfl ?_
            refine JC_region ?_
            refine JL_loadA (vs := [_, _, _]) 3 ty30 rfl rfl ⟨rfl, rfl, rfl, trivial⟩ ?_
            refine JL_store (vs := [_, _, _]) 2 ty30 rfl rfl rfl (AllOne.cons rfl (AllOne.cons rfl (AllOne.cons rfl AllOne.nil))) rfl (Nat.le_of_ble_eq_true rfl) ?_
            refine JL_nil_up 69 [osl _ _ _ _ _ _, box _ _ [_, _, _], box _ _ [_, _, _], box _ _ [_, _, _]] [_, _, _, _, _, _, _, _, _, _, _, _, _, _] rfl rfl (by simp only [nrmF]; rfl) rfl rfl ?_
            refine JE_block_normal ?_
            refine JE_then ?_
            refine JC_region ?_
            refine JL_move rfl ?_
            refine JL_add_to rfl rfl (IntWalk.i64_in _ (by omega)) ?_
            rw [show (((k + 2 + d : Nat) : Int) + 1 : Int) = ((k + 2 + (d + 1) : Nat) : Int) from by omega]
            refine JL_assign rfl ?_
            refine JL_nil_up 69 [osl _ _ _ _ _ _, box _ _ [_, _, _], box _ _ [_, _, _], box _ _ [_, _, _]] [_, _, _, _, _, _, _, _, _, _, _, _, _, _] rfl rfl (by simp only [nrmF]; rfl) rfl rfl ?_
            refine JE_dropAt 3 ?_
            refine JE_norm _ [osl _ _ _ _ _ _, box _ _ [_, _, _], box _ _ [_, _, _]] [_, _, _, _, _, _, _, _, _, _, _, _, _, _] rfl rfl rfl ?_
            refine JE_nextS (d + 1, meanq V W i (k + 2 + d), ad49, cp49, be49, ce49) (by kernel_rfl) ?_ ?_ (by kernel_rfl) ?_
            · exact ⟨by omega, mst_pick hq h53⟩
            · first | omega | (dsimp only; omega)
            · exact subset_app (subset_cons (by repeat (first | with_reducible exact mm0 | refine mmS ?_)) (subset_cons (by repeat (first | with_reducible exact mm0 | refine mmS ?_)) subset_nil)) (ssS (ssS (ssS (ssS ss0))))
          · refine JL_done_up 69 [osl _ _ _ _ _ _, box _ _ [_, _, _], box _ _ [_, _, _], box _ _ [_, _, _]] [_, _, _, _, _, _, _, _, _, _, _, _, _, _] rfl rfl (by simp only [nrmF]; rfl) rfl rfl ?_
            refine JC_false rfl ?_
            refine JC_skip ?_
            refine JE_block_normal ?_
            refine JE_then ?_
            refine JC_region ?_
            refine JL_move rfl ?_
            refine JL_add_to rfl rfl (IntWalk.i64_in _ (by omega)) ?_
            rw [show (((k + 2 + d : Nat) : Int) + 1 : Int) = ((k + 2 + (d + 1) : Nat) : Int) from by omega]
            refine JL_assign rfl ?_
            refine JL_nil_up 69 [osl _ _ _ _ _ _, box _ _ [_, _, _], box _ _ [_, _, _], box _ _ [_, _, _]] [_, _, _, _, _, _, _, _, _, _, _, _, _, _] rfl rfl (by simp only [nrmF]; rfl) rfl rfl ?_
            refine JE_dropAt 3 ?_
            refine JE_norm _ [osl _ _ _ _ _ _, box _ _ [_, _, _], box _ _ [_, _, _]] [_, _, _, _, _, _, _, _, _, _, _, _, _, _] rfl rfl rfl ?_
            refine JE_nextS (d + 1, q, ad1, c1, be1, e1) (by kernel_rfl) ?_ ?_ (by kernel_rfl) ?_
            · exact ⟨by omega, mst_hold hq h53⟩
            · first | omega | (dsimp only; omega)
            · exact subset_app (subset_cons (by repeat (first | with_reducible exact mm0 | refine mmS ?_)) (subset_cons (by repeat (first | with_reducible exact mm0 | refine mmS ?_)) subset_nil)) (ssS (ssS (ssS (ssS ss0))))
        · refine JL_done_up 69 [osl _ _ _ _ _ _, box _ _ [_, _, _], box _ _ [_, _, _]] [_, _, _, _, _, _, _, _, _, _, _, _] rfl rfl (by simp only [nrmF]; rfl) rfl rfl ?_
          refine JC_false rfl ?_
          refine JC_exit ?_
          refine JE_then_exit ?_
          refine JE_nextS_exit ?_
          refine JE_block_exit ?_
          refine JE_then ?_
          refine JC_seq ?_
          have hde : d = V.length - (k + 1) := by omega
          refine JC_region ?_
          refine JL_move rfl ?_
          refine JL_eql rfl rfl ?_
          refine JL_split (fun h56 => ?_) (fun h56 => ?_)
          · refine JL_move rfl ?_
            refine JL_guard_no rfl rfl ?_
            refine JL_guard_no rfl rfl ?_
            refine JL_guard_no rfl rfl ?_
            refine JL_guard_no rfl rfl ?_
            refine JL_pick_t rfl rfl ?_
            refine JL_done_up 69 [osl _ _ _ _ _ _, box _ _ [_, _, _], box _ _ [_, _, _]] [_, _, _, _, _, _, _, _, _, _, _, _] rfl rfl (by simp only [nrmF]; rfl) rfl rfl ?_
            refine JC_true rfl ?_
            refine JC_region ?_
            refine JL_loadA (vs := [_, _, _]) 2 ty30 rfl rfl ⟨rfl, rfl, rfl, trivial⟩ ?_
            refine JL_store (vs := [_, _, _]) 1 ty30 rfl rfl rfl (AllOne.cons rfl (AllOne.cons rfl (AllOne.cons rfl AllOne.nil))) rfl (Nat.le_of_ble_eq_true rfl) ?_
            refine JL_nil_up 69 [osl _ _ _ _ _ _, box _ _ [_, _, _], box _ _ [_, _, _]] [_, _, _, _, _, _, _, _, _, _, _, _] rfl rfl (by simp only [nrmF]; rfl) rfl rfl ?_
            refine JE_block_normal ?_
            refine JE_then ?_
            refine JC_region ?_
            refine JL_move rfl ?_
            refine JL_add_to rfl rfl (IntWalk.i64_in _ (by omega)) ?_
            refine JL_assign rfl ?_
            refine JL_nil_up 69 [osl _ _ _ _ _ _, box _ _ [_, _, _], box _ _ [_, _, _]] [_, _, _, _, _, _, _, _, _, _, _, _] rfl rfl (by simp only [nrmF]; rfl) rfl rfl ?_
            refine JE_dropAt 2 ?_
            refine JE_norm _ [osl _ _ _ _ _ _, box _ _ [_, _, _]] [_, _, _, _, _, _, _, _, _, _, _, _] rfl rfl rfl ?_
            refine JE_nextS (i + 1, some q, ad1, c1, be1, e1) (by kernel_rfl) ?_ ?_ (by kernel_rfl) ?_
            · exact ⟨by omega, lsto_first hq (by omega) hde⟩
            · first | omega | (dsimp only; omega)
            · exact subset_app (subset_cons (by repeat (first | with_reducible exact mm0 | refine mmS ?_)) (subset_cons (by repeat (first | with_reducible exact mm0 | refine mmS ?_)) subset_nil)) (ssS (ssS (ssS (ssS (ssS (ssS ss0))))))
          · refine JL_move rfl ?_
            refine JL_guard_yes rfl rfl ?_
            refine JL_loadA (vs := [_, _, _]) 2 ty30 rfl rfl ⟨rfl, rfl, rfl, trivial⟩ ?_
            refine JL_guard_yes rfl rfl ?_
            refine JL_loadA (vs := [_, _, _]) 1 ty30 rfl rfl ⟨rfl, rfl, rfl, trivial⟩ ?_
            refine JL_guard_yes rfl rfl ?_
            refine JL_callF' (Asks.cons (by first | exact holds_of_mem (by repeat (first | with_reducible exact mm0 | refine mmS ?_)) | (exact holds_of_own 0 rfl)) (Asks.cons (by first | exact holds_of_mem (by repeat (first | with_reducible exact mm0 | refine mmS ?_)) | (exact holds_of_own 0 rfl)) (Asks.cons (by first | exact holds_of_mem (by repeat (first | with_reducible exact mm0 | refine mmS ?_)) | (exact holds_of_own 0 rfl)) (Asks.cons (by first | exact holds_of_mem (by repeat (first | with_reducible exact mm0 | refine mmS ?_)) | (exact holds_of_own 0 rfl)) Asks.nil)))) (rcmpq_con (FIn.some (by rw [hq]; exact (qs_mst hz hd).mono (by decide))) (FIn.of ((qs_lsto hz (by omega) ho).mono (by decide)))) rfl ca31 ⟨rfl, rfl, rfl⟩ ?_
            rintro _ _ ⟨rfl, rfl⟩
            refine JL_guard_yes rfl rfl ?_
            refine JL_lss rfl rfl ?_
            refine JL_split (fun h61 => ?_) (fun h61 => ?_)
            · refine JL_pick_f rfl rfl ?_
              refine JL_done_up 69 [osl _ _ _ _ _ _, box _ _ [_, _, _], box _ _ [_, _, _]] [_, _, _, _, _, _, _, _, _, _, _, _] rfl rfl (by simp only [nrmF]; rfl) rfl rfl ?_
              refine JC_true rfl ?_
              refine JC_region ?_
              refine JL_loadA (vs := [_, _, _]) 2 ty30 rfl rfl ⟨rfl, rfl, rfl, trivial⟩ ?_
              refine JL_store (vs := [_, _, _]) 1 ty30 rfl rfl rfl (AllOne.cons rfl (AllOne.cons rfl (AllOne.cons rfl AllOne.nil))) rfl (Nat.le_of_ble_eq_true rfl) ?_
              refine JL_nil_up 69 [osl _ _ _ _ _ _, box _ _ [_, _, _], box _ _ [_, _, _]] [_, _, _, _, _, _, _, _, _, _, _, _] rfl rfl (by simp only [nrmF]; rfl) rfl rfl ?_
              refine JE_block_normal ?_
              refine JE_then ?_
              refine JC_region ?_
              refine JL_move rfl ?_
              refine JL_add_to rfl rfl (IntWalk.i64_in _ (by omega)) ?_
              refine JL_assign rfl ?_
              refine JL_nil_up 69 [osl _ _ _ _ _ _, box _ _ [_, _, _], box _ _ [_, _, _]] [_, _, _, _, _, _, _, _, _, _, _, _] rfl rfl (by simp only [nrmF]; rfl) rfl rfl ?_
              refine JE_dropAt 2 ?_
              refine JE_norm _ [osl _ _ _ _ _ _, box _ _ [_, _, _]] [_, _, _, _, _, _, _, _, _, _, _, _] rfl rfl rfl ?_
              refine JE_nextS (i + 1, some q, ad1, c1, be1, e1) (by kernel_rfl) ?_ ?_ (by kernel_rfl) ?_
              · exact ⟨by omega, lsto_less hq hde (by omega) ho h61⟩
              · first | omega | (dsimp only; omega)
              · exact subset_app (subset_cons (by repeat (first | with_reducible exact mm0 | refine mmS ?_)) (subset_cons (by repeat (first | with_reducible exact mm0 | refine mmS ?_)) subset_nil)) (ssS (ssS (ssS (ssS (ssS (ssS ss0))))))
            · refine JL_pick_f rfl rfl ?_
              refine JL_done_up 69 [osl _ _ _ _ _ _, box _ _ [_, _, _], box _ _ [_, _, _]] [_, _, _, _, _, _, _, _, _, _, _, _] rfl rfl (by simp only [nrmF]; rfl) rfl rfl ?_
              refine JC_false rfl ?_
              refine JC_skip ?_
              refine JE_block_normal ?_
              refine JE_then ?_
              refine JC_region ?_
              refine JL_move rfl ?_
              refine JL_add_to rfl rfl (IntWalk.i64_in _ (by omega)) ?_
              refine JL_assign rfl ?_
              refine JL_nil_up 69 [osl _ _ _ _ _ _, box _ _ [_, _, _], box _ _ [_, _, _]] [_, _, _, _, _, _, _, _, _, _, _, _] rfl rfl (by simp only [nrmF]; rfl) rfl rfl ?_
              refine JE_dropAt 2 ?_
              refine JE_norm _ [osl _ _ _ _ _ _, box _ _ [_, _, _]] [_, _, _, _, _, _, _, _, _, _, _, _] rfl rfl rfl ?_
              refine JE_nextS (i + 1, o, ad0, c0, be0, e0) (by kernel_rfl) ?_ ?_ (by kernel_rfl) ?_
              · exact ⟨by omega, lsto_keep hq hde (by omega) ho h61⟩
              · first | omega | (dsimp only; omega)
              · exact subset_app (subset_cons (by repeat (first | with_reducible exact mm0 | refine mmS ?_)) (subset_cons (by repeat (first | with_reducible exact mm0 | refine mmS ?_)) subset_nil)) (ssS (ssS (ssS (ssS (ssS (ssS ss0))))))
      · refine JL_done_up 69 [osl _ _ _ _ _ _, box _ _ [_, _, _]] [_, _, _, _, _, _, _, _] rfl rfl (by simp only [nrmF]; rfl) rfl rfl ?_
        refine JC_false rfl ?_
        refine JC_exit ?_
        refine JE_then_exit ?_
        refine JE_nextS_exit ?_
        refine JE_block_exit ?_
        refine JE_then ?_
        have hok1 : o = some (lst V W V.length k k) := by rw [ho, show i = k + 1 from by omega]; rfl
        clear ho
        subst hok1
        have hll : l.length = k := by have := congrArg List.length hl; simpa using this
        refine JC_region ?_
        refine JL_move rfl ?_
        refine JL_loadA (vs := [_, _, _]) 1 ty30 rfl rfl ⟨rfl, rfl, rfl, trivial⟩ ?_
        refine JL_buildN (cs0 := [.bool false, .slice none 0 0, .slice none 0 0]) (cs := [_, _, _]) [(0, [_, _, _])] sl23 (by kernel_rfl) ⟨⟨rfl, _, rfl, rfl⟩, rfl⟩ rfl rfl rfl rfl (fun g66 => ?_)
        refine JL_append (news := [_, _, _]) 0 sl23 rfl (by decide) rfl rfl rfl rfl (Reads.own 2 rfl) (AllOne.cons rfl (AllOne.cons rfl (AllOne.cons rfl AllOne.nil))) (by omega) (by omega) (fun ad67 cap67 hc67 => ?_)
        refine JL_dropAt 2 ?_
        refine JL_norm _ [osl _ _ _ _ _ _, box _ _ [_, _, _]] [_, _, _, _, _, _, _, _] rfl rfl rfl ?_
        rw [show fcells l ++ [.bool (fneg (some (lst V W V.length k k))), .slice ad0 (fnum (some (lst V W V.length k k))).length c0, .slice be0 (fden (some (lst V W V.length k k))).length e0] = fcells (l ++ [⟨ad0, c0, be0, e0, lst V W V.length k k⟩]) from fcells_snoc l ⟨ad0, c0, be0, e0, lst V W V.length k k⟩, show l.length + 1 = (l ++ [(⟨ad0, c0, be0, e0, lst V W V.length k k⟩ : Fe)]).length from by simp]
        refine JL_fesSnoc (f := true) (l := l) ⟨ad0, c0, be0, e0, lst V W V.length k k⟩ (by repeat (first | with_reducible exact mm0 | refine mmS ?_)) (by repeat (first | with_reducible exact mm0 | refine mmS ?_)) (by repeat (first | with_reducible exact mm0 | refine mmS ?_)) ?_
        refine JL_assign rfl ?_
        refine JL_nil_up 69 [osl _ _ _ _ _ _, box _ _ [_, _, _]] [_, _, _, _, _, _, _, _, _] rfl rfl (by simp only [nrmF]; rfl) rfl rfl ?_
        refine JE_block_normal ?_
        refine JE_then ?_
        refine JC_region ?_
        refine JL_move rfl ?_
        refine JL_add_to rfl rfl (IntWalk.i64_in _ (by omega)) ?_
        refine JL_assign rfl ?_
        refine JL_nil_up 69 [osl _ _ _ _ _ _, box _ _ [_, _, _]] [_, _, _, _, _, _, _, _, _] rfl rfl (by simp only [nrmF]; rfl) rfl rfl ?_
        refine JE_dropAt 1 ?_
        refine JE_norm _ [osl _ _ _ _ _ _] [_, _, _, _, _, _, _, _, _] rfl rfl rfl ?_
        refine JE_nextS (k + 1, l ++ [⟨ad0, c0, be0, e0, lst V W V.length k k⟩], ad67, cap67) (by kernel_rfl) ?_ ?_ (by kernel_rfl) ?_
        · exact ⟨by omega, by rw [List.map_append, hl, List.range_succ, List.map_append]; rfl⟩
        · first | omega | (dsimp only; omega)
        · exact subset_app (subset_cons (by repeat (first | with_reducible exact mm0 | refine mmS ?_)) subset_nil) (ssS (ssS (ssS (ssS (ssS (ssS ss0))))))
    · refine JL_done_up 69 [osl _ _ _ _ _ _] [_, _, _, _] rfl rfl (by simp only [nrmF]; rfl) rfl rfl ?_
      refine JC_false rfl ?_
      refine JC_exit ?_
      refine JE_then_exit ?_
      refine JE_nextS_exit ?_
      refine JE_block_exit ?_
      refine JE_then ?_
      refine JC_seq ?_
      refine JC_region ?_
      refine JL_move rfl ?_
      refine JL_assign rfl ?_
      refine JL_assign rfl ?_
      refine JL_done_up 69 [osl _ _ _ _ _ _] [_, _, _, _] rfl rfl (by simp only [nrmF]; rfl) rfl rfl ?_
      refine JC_ret ?_
      have hke : k = V.length := by omega
      subst hke
      refine JE_give 0 rfl ?_
      refine JE_norm _ [] [_, _, _, _, _] rfl rfl rfl ?_
      refine JE_ret (vs := [_, _]) [vCells ad (fcells l), vFes l] Tryz.results30 ⟨rfl, rfl, rfl⟩ ?_ ?_
      · rw [hz]; exact ⟨ad, cap, l, rfl, by rw [rfitL, if_pos hz, hl], rfl⟩
      · exact (all_cons (by repeat (first | with_reducible exact mm0 | refine mmS ?_)) (all_cons (by repeat (first | with_reducible exact mm0 | refine mmS ?_)) all_nil))

end Go.Fw.K
