/- Walks through functions of the given program: each meets its contract. (Printed by a program of this repo.) -/
import Derived.Test.YtgnljjdcbfijnaaDoorS6
import Derived.Test.YtgnljjdcbfijnaaDoorSC
import Derived.Test.YtgnljjdcbfijnaaDoorProg
namespace Go.Fw.S10
open Go Go.RowKit Go.Proofs Go.Nat9 Go.Fw
attribute [local irreducible] JC JL JE
theorem ca14 : callable Tryd.prog 14 = true := by kernel_rfl
theorem ca20 : callable Tryd.prog 20 = true := by kernel_rfl
theorem ca23 : callable Tryd.prog 23 = true := by kernel_rfl
theorem ca31 : callable Tryd.prog 31 = true := by kernel_rfl
theorem ca37 : callable Tryd.prog 37 = true := by kernel_rfl
theorem ca41 : callable Tryd.prog 41 = true := by kernel_rfl
theorem ca42 : callable Tryd.prog 42 = true := by kernel_rfl
theorem ca48 : callable Tryd.prog 48 = true := by kernel_rfl
theorem sl54 : slOf Tryd.prog 54 = some (3, 1, 8, [.int .i64 0]) := by kernel_rfl
theorem st35 : stOf Tryd.prog 35 = some ([(0, 1), (1, 1), (2, 1)], [.bool false, .slice none 0 0, .slice none 0 0]) := by kernel_rfl
theorem ty3 : tyOf Tryd.prog 3 = some (false, 1) := by kernel_rfl
theorem ty35 : tyOf Tryd.prog 35 = some (true, 3) := by kernel_rfl
theorem z35 : zeroOf Tryd.prog 35 = some [.bool false, .slice none 0 0, .slice none 0 0] := by kernel_rfl
end Go.Fw.S10
namespace Go.Fw.K
open Go Go.RowKit Go.Proofs Go.Nat9 Go.Fw Go.Fw.S10
attribute [local irreducible] JC JL JE

set_option maxHeartbeats 1000000 in
theorem ierror_con {m : Int} {ad0 : Option Addr} {c0 : Nat} {L : List Int} {s1 : Bool} {ad1 : Option Addr} {n1 c1 : Nat} {L1 : List Nat} {be1 : Option Addr} {m1 e1 : Nat} {M1 : List Nat} {q1 : Rat} (g1 : FIn s1 n1 L1 m1 M1 q1 4) :
    ConF Tryd.prog 25 [.slice ad0 L.length c0, .agg #[.bool s1, .slice ad1 n1 c1, .slice be1 m1 e1], .int .i64 m] [vCells ad0 (i64s L), vCells ad1 (u32s L1), vCells be1 (u32s M1)]
      (FOE (errO L q1 m) (errE L q1 m)) := by
  have hu := g1.qs
  refine ConF_of Tryd.func25 rfl 61 _ rfl rfl ?_
  intro w0
  refine JC_norm ⟨61, [], [_, _, _, _, _, _, _, _, _, _, _, _, _, _, _, _, _, _, _, _, _, _, _, _, _, _, _, _, _, _, _, _, _, _, _, _, _, _, _, _, _, _, _, _, _, _, _, _, _, _, _, _, _, _, _, _, _, _, _, _, _]⟩ [] [_, _, _] rfl rfl rfl ?_
  refine JC_seq ?_
  refine JC_region ?_
  refine JL_box rfl rfl (fun b4 => ?_)
  refine JL_alloc z35 (fun b6 => ?_)
  refine JL_assign rfl ?_
  refine JL_done_up 61 [box _ _ [_, _, _], box _ _ [_, _, _]] [_, _, _] rfl rfl (by simp only [nrmF]; rfl) rfl rfl ?_
  refine JC_seq ?_
  refine JC_seq ?_
  refine JC_region ?_
  refine JL_move rfl ?_
  refine JL_callF' (Asks.cons (holds_of_mem (by repeat (first | with_reducible exact mm0 | refine mmS ?_))) Asks.nil) (icheck_con) rfl ca48 ⟨rfl, rfl⟩ ?_
  rintro _ _ ⟨rfl, rfl⟩
  refine JL_assign rfl ?_
  refine JL_done_up 61 [box _ _ [_, _, _], box _ _ [_, _, _]] [_, _, _] rfl rfl (by simp only [nrmF]; rfl) rfl rfl ?_
  refine JC_seq ?_
  refine JC_region ?_
  refine JL_move rfl ?_
  refine JL_neq rfl rfl ?_
  refine JL_split (fun h19 => ?_) (fun h19 => ?_)
  · refine JL_done_up 61 [box _ _ [_, _, _], box _ _ [_, _, _]] [_, _, _] rfl rfl (by simp only [nrmF]; rfl) rfl rfl ?_
    refine JC_true rfl ?_
    refine JC_seq ?_
    refine JC_region ?_
    refine JL_build (cs := [_, _, _]) [] st35 rfl rfl ?_
    refine JL_move rfl ?_
    refine JL_store (vs := [_, _, _]) 1 ty35 rfl rfl rfl (AllOne.cons rfl (AllOne.cons rfl (AllOne.cons rfl AllOne.nil))) rfl (Nat.le_of_ble_eq_true rfl) ?_
    refine JL_assign rfl ?_
    refine JL_done_up 61 [box _ _ [_, _, _], box _ _ [_, _, _]] [_, _, _] rfl rfl (by simp only [nrmF]; rfl) rfl rfl ?_
    refine JC_ret ?_
    refine JE_then_ret ?_
    have he : errE L q1 m ≠ 0 := by rw [errE_chk h19]; first | assumption | decide
    refine JE_nilView ?_
    refine JE_ret (vs := [_, _]) [vCells none (u32s []), vCells none (u32s [])] Tryd.results25 ⟨RV.cell (vs := [_, _, _]) 1 ty35 rfl rfl ⟨rfl, rfl, rfl, trivial⟩, rfl, rfl⟩ ?_ ?_
    · rw [errO_no he, errE_chk h19]; exact ⟨none, 0, none, 0, rfl, rfl⟩
    · exact (all_cons (by repeat (first | with_reducible exact mm0 | refine mmS ?_)) (all_cons (by repeat (first | with_reducible exact mm0 | refine mmS ?_)) all_nil))
  · refine JL_done_up 61 [box _ _ [_, _, _], box _ _ [_, _, _]] [_, _, _] rfl rfl (by simp only [nrmF]; rfl) rfl rfl ?_
    refine JC_false rfl ?_
    refine JC_skip ?_
    refine JE_then ?_
    refine JC_seq ?_
    refine JC_block ?_
    refine JC_seq ?_
    refine JC_region ?_
    refine JL_loadA (vs := [_, _, _]) 0 ty35 rfl rfl ⟨rfl, rfl, rfl, trivial⟩ ?_
    refine JL_callF' (Asks.cons (holds_of_mem (by repeat (first | with_reducible exact mm0 | refine mmS ?_))) (Asks.cons (holds_of_mem (by repeat (first | with_reducible exact mm0 | refine mmS ?_))) Asks.nil)) (iunit_con (g1.mono (by decide))) rfl ca37 ⟨rfl, rfl⟩ ?_
    rintro _ _ ⟨rfl, rfl⟩
    refine JL_split (fun h24 => ?_) (fun h24 => ?_)
    · refine JL_not rfl ?_
      rw [Bool.not_true]
      refine JL_assign rfl ?_
      refine JL_done_up 61 [box _ _ [_, _, _], box _ _ [_, _, _]] [_, _, _] rfl rfl (by simp only [nrmF]; rfl) rfl rfl ?_
      refine JC_false rfl ?_
      refine JC_seq ?_
      refine JC_region ?_
      refine JL_move rfl ?_
      refine JL_callF' Asks.nil (ilim_con (tol := 0)) rfl ca31 ⟨rfl, rfl, rfl⟩ ?_
      rintro _ _ ⟨rfl, rfl⟩
      refine JL_neq rfl rfl ?_
      refine JL_split (fun h30 => ?_) (fun h30 => ?_)
      · refine JL_assign rfl ?_
        refine JL_done_up 61 [box _ _ [_, _, _], box _ _ [_, _, _]] [_, _, _] rfl rfl (by simp only [nrmF]; rfl) rfl rfl ?_
        refine JC_true rfl ?_
        refine JC_seq ?_
        refine JC_region ?_
        refine JL_build (cs := [_, _, _]) [] st35 rfl rfl ?_
        refine JL_store (vs := [_, _, _]) 1 ty35 rfl rfl rfl (AllOne.cons rfl (AllOne.cons rfl (AllOne.cons rfl AllOne.nil))) rfl (Nat.le_of_ble_eq_true rfl) ?_
        refine JL_assign rfl ?_
        refine JL_done_up 61 [box _ _ [_, _, _], box _ _ [_, _, _]] [_, _, _] rfl rfl (by simp only [nrmF]; rfl) rfl rfl ?_
        refine JC_ret ?_
        refine JE_block_ret ?_
        refine JE_then_ret ?_
        have he : errE L q1 m ≠ 0 := by rw [errE_lim h19 h24 h30]; first | assumption | decide
        refine JE_nilView ?_
        refine JE_ret (vs := [_, _]) [vCells none (u32s []), vCells none (u32s [])] Tryd.results25 ⟨RV.cell (vs := [_, _, _]) 1 ty35 rfl rfl ⟨rfl, rfl, rfl, trivial⟩, rfl, rfl⟩ ?_ ?_
        · rw [errO_no he, errE_lim h19 h24 h30]; exact ⟨none, 0, none, 0, rfl, rfl⟩
        · exact (all_cons (by repeat (first | with_reducible exact mm0 | refine mmS ?_)) (all_cons (by repeat (first | with_reducible exact mm0 | refine mmS ?_)) all_nil))
      · refine JL_assign rfl ?_
        refine JL_done_up 61 [box _ _ [_, _, _], box _ _ [_, _, _]] [_, _, _] rfl rfl (by simp only [nrmF]; rfl) rfl rfl ?_
        refine JC_false rfl ?_
        refine JC_seq ?_
        refine JC_region ?_
        refine JL_move rfl ?_
        refine JL_len sl54 rfl ?_
        refine JL_eql rfl rfl ?_
        refine JL_split (fun h35 => ?_) (fun h35 => ?_)
        · refine JL_assign rfl ?_
          refine JL_done_up 61 [box _ _ [_, _, _], box _ _ [_, _, _]] [_, _, _] rfl rfl (by simp only [nrmF]; rfl) rfl rfl ?_
          refine JC_true rfl ?_
          refine JC_seq ?_
          refine JC_region ?_
          refine JL_build (cs := [_, _, _]) [] st35 rfl rfl ?_
          refine JL_store (vs := [_, _, _]) 1 ty35 rfl rfl rfl (AllOne.cons rfl (AllOne.cons rfl (AllOne.cons rfl AllOne.nil))) rfl (Nat.le_of_ble_eq_true rfl) ?_
          refine JL_assign rfl ?_
          refine JL_done_up 61 [box _ _ [_, _, _], box _ _ [_, _, _]] [_, _, _] rfl rfl (by simp only [nrmF]; rfl) rfl rfl ?_
          refine JC_ret ?_
          refine JE_block_ret ?_
          refine JE_then_ret ?_
          have he : errE L q1 m ≠ 0 := by rw [errE_nil h19 h24 h30 (by omega)]; first | assumption | decide
          refine JE_nilView ?_
          refine JE_ret (vs := [_, _]) [vCells none (u32s []), vCells none (u32s [])] Tryd.results25 ⟨RV.cell (vs := [_, _, _]) 1 ty35 rfl rfl ⟨rfl, rfl, rfl, trivial⟩, rfl, rfl⟩ ?_ ?_
          · rw [errO_no he, errE_nil h19 h24 h30 (by omega)]; exact ⟨none, 0, none, 0, rfl, rfl⟩
          · exact (all_cons (by repeat (first | with_reducible exact mm0 | refine mmS ?_)) (all_cons (by repeat (first | with_reducible exact mm0 | refine mmS ?_)) all_nil))
        · refine JL_assign rfl ?_
          refine JL_done_up 61 [box _ _ [_, _, _], box _ _ [_, _, _]] [_, _, _] rfl rfl (by simp only [nrmF]; rfl) rfl rfl ?_
          refine JC_false rfl ?_
          refine JC_skip ?_
          refine JE_block_normal ?_
          refine JE_then ?_
          refine JC_seq ?_
          have hz : chkE L = 0 := Classical.byContradiction h19
          obtain ⟨hn64, hws⟩ := chkE_zero hz
          have hlim : limOk 0 m := limE_zero.1 (Classical.byContradiction h30)
          refine JC_region ?_
          refine JL_callF' Asks.nil (iwhole_con 0 (by omega)) rfl ca41 ⟨rfl, rfl⟩ ?_
          rintro _ _ ⟨ad37, cp37, be37, ce37, rfl, rfl⟩
          refine JL_alloc z35 (fun b9 => ?_)
          refine JL_store (vs := [_, _, _]) 2 ty35 rfl rfl rfl (AllOne.cons rfl (AllOne.cons rfl (AllOne.cons rfl AllOne.nil))) rfl (Nat.le_of_ble_eq_true rfl) ?_
          refine JL_done_up 61 [box _ _ [_, _, _], box _ _ [_, _, _], box _ _ [_, _, _]] [_, _, _, _, _] rfl rfl (by simp only [nrmF]; rfl) rfl rfl ?_
          refine JC_seq ?_
          refine JC_seq ?_
          refine JC_region ?_
          refine JL_move rfl ?_
          refine JL_len sl54 rfl ?_
          refine JL_move rfl ?_
          refine JL_done_up 61 [box _ _ [_, _, _], box _ _ [_, _, _], box _ _ [_, _, _]] [_, _, _, _, _] rfl rfl (by simp only [nrmF]; rfl) rfl rfl ?_
          refine JC_block ?_
          refine JC_loopS ((Nat) × (Rat) × (Option Addr) × (Nat) × (Option Addr) × (Nat)) (fun (i, q, ad, c, be, e) => i ≤ L.length ∧ errR L q1 m i = q) (fun (i, q, ad, c, be, e) => L.length - i) (fun u (i, q, ad, c, be, e) => [none, none, none, none, none, none, none, none, none, none, none, some (u 11), some (u 12), some (u 13), some (u 14), some (u 15), none, none, none, none, none, none, none, none, none, none, none, none, none, none, none, none, none, none, none, none, none, none, none, none, some (.int .i64 (i : Nat)), some (u 41), some (u 42), some (u 43), some (u 44), some (u 45), some (u 46), some (u 47), some (u 48), some (u 49), some (u 50), some (u 51), some (u 52), some (u 53), some (u 54), some (u 55), some (u 56), some (u 57), some (u 58), some (u 59), none]) (fun (i, q, ad, c, be, e) => [none, none, some (box b9 35 [.bool (fneg (some q)), .slice ad (fnum (some q)).length c, .slice be (fden (some q)).length e])]) (fun (i, q, ad, c, be, e) => [(true, vCells ad (u32s (fnum (some q)))), (true, vCells be (u32s (fden (some q))))]) (0, ofq 0 1, ad37, cp37, be37, ce37) (by kernel_rfl) ?_ (by kernel_rfl) ?_ ?_
          · exact ⟨Nat.zero_le _, rfl⟩
          · exact (subset_cons (by repeat (first | with_reducible exact mm0 | refine mmS ?_)) (subset_cons (by repeat (first | with_reducible exact mm0 | refine mmS ?_)) subset_nil))
          intro u i hC
          obtain ⟨i, q, ad, c, be, e⟩ := i
          obtain ⟨hi, hR⟩ := hC
          refine JC_norm ⟨61, [], [_, _, _, _, _, _, _, _, _, _, _, _, _, _, _, _, _, _, _, _, _, _, _, _, _, _, _, _, _, _, _, _, _, _, _, _, _, _, _, _, _, _, _, _, _, _, _, _, _, _, _, _, _, _, _, _, _, _, _, _, _]⟩ [box _ _ [_, _, _], box _ _ [_, _, _], box _ _ [_, _, _]] [_, _, _, _, _, _, _] rfl rfl rfl ?_
          refine JC_seq ?_
          refine JC_region ?_
          refine JL_lss rfl rfl ?_
          refine JL_split (fun h41 => ?_) (fun h41 => ?_)
          · refine JL_done_up 61 [box _ _ [_, _, _], box _ _ [_, _, _], box _ _ [_, _, _]] [_, _, _, _, _, _, _] rfl rfl (by simp only [nrmF]; rfl) rfl rfl ?_
            refine JC_seq ?_
            refine JC_true rfl ?_
            refine JC_skip ?_
            refine JE_then ?_
            refine JC_seq ?_
            refine JC_block ?_
            refine JC_seq ?_
            refine JC_region ?_
            refine JL_idx i sl54 rfl rfl rfl (by omega) (by first | exact Reads.view (by repeat (first | with_reducible exact mm0 | refine mmS ?_))) (by first | (rw [u32s_length]; omega) | (rw [i64s_length]; omega)) ?_
            refine JL_loadE ty3 rfl (by first | exact Reads.view (by repeat (first | with_reducible exact mm0 | refine mmS ?_))) (i64s_get (by omega)) ?_
            refine JL_assign rfl ?_
            refine JL_done_up 61 [box _ _ [_, _, _], box _ _ [_, _, _], box _ _ [_, _, _]] [_, _, _, _, _, _, _] rfl rfl (by simp only [nrmF]; rfl) rfl rfl ?_
            refine JC_seq ?_
            have hw := hws i (by omega)
            have hE : mulE (L.getD i 0) q1 m = 0 := by rw [mulE_lim hw h24]; exact Classical.byContradiction h30
            have hqo : qs (offR (L.getD i 0) q1 m) 12 := qs_mulR hw hu (by have := hlim.2.2; omega)
            have hqR := qs_errR hws hu hlim.2.2 (i := i) (by omega)
            rw [hR] at hqR
            refine JC_region ?_
            refine JL_move rfl ?_
            refine JL_loadA (vs := [_, _, _]) 0 ty35 rfl rfl ⟨rfl, rfl, rfl, trivial⟩ ?_
            refine JL_move rfl ?_
            refine JL_callF' (Asks.cons (holds_of_mem (by repeat (first | with_reducible exact mm0 | refine mmS ?_))) (Asks.cons (holds_of_mem (by repeat (first | with_reducible exact mm0 | refine mmS ?_))) Asks.nil)) (imul_con (w := L.getD i 0) (m := m) g1) rfl ca20 ⟨rfl, rfl, rfl, rfl⟩ ?_
            rintro _ _ ⟨ad48, cp48, be48, ce48, rfl, rfl⟩
            rw [mulK_ok hE, mulO_ok hE, hE, show (mulR (L.getD i 0) q1 (m.toNat - 1)).2 = offR (L.getD i 0) q1 m from rfl]
            refine JL_move rfl ?_
            refine JL_extract rfl rfl ?_
            refine JL_extract rfl rfl ?_
            refine JL_extract rfl rfl ?_
            refine JL_alloc z35 (fun b13 => ?_)
            refine JL_assign rfl ?_
            refine JL_store (vs := [_, _, _]) 3 ty35 rfl rfl rfl (AllOne.cons rfl (AllOne.cons rfl (AllOne.cons rfl AllOne.nil))) rfl (Nat.le_of_ble_eq_true rfl) ?_
            refine JL_assign rfl ?_
            refine JL_done_up 61 [box _ _ [_, _, _], box _ _ [_, _, _], box _ _ [_, _, _], box _ _ [_, _, _]] [_, _, _, _, _, _, _, _, _] rfl rfl (by simp only [nrmF]; rfl) rfl rfl ?_
            refine JC_seq ?_
            refine JC_region ?_
            refine JL_loadA (vs := [_, _, _]) 3 ty35 rfl rfl ⟨rfl, rfl, rfl, trivial⟩ ?_
            refine JL_callF' (Asks.cons (holds_of_mem (by repeat (first | with_reducible exact mm0 | refine mmS ?_))) (Asks.cons (holds_of_mem (by repeat (first | with_reducible exact mm0 | refine mmS ?_))) Asks.nil)) (idist_con (FIn.some (hqo.mono (by decide)))) rfl ca42 ⟨rfl, rfl⟩ ?_
            rintro _ _ ⟨ad53, cp53, be53, ce53, rfl, rfl⟩
            refine JL_alloc z35 (fun b15 => ?_)
            refine JL_store (vs := [_, _, _]) 4 ty35 rfl rfl rfl (AllOne.cons rfl (AllOne.cons rfl (AllOne.cons rfl AllOne.nil))) rfl (Nat.le_of_ble_eq_true rfl) ?_
            refine JL_done_up 61 [box _ _ [_, _, _], box _ _ [_, _, _], box _ _ [_, _, _], box _ _ [_, _, _], box _ _ [_, _, _]] [_, _, _, _, _, _, _, _, _, _, _] rfl rfl (by simp only [nrmF]; rfl) rfl rfl ?_
            refine JC_seq ?_
            refine JC_region ?_
            refine JL_loadA (vs := [_, _, _]) 4 ty35 rfl rfl ⟨rfl, rfl, rfl, trivial⟩ ?_
            refine JL_loadA (vs := [_, _, _]) 2 ty35 rfl rfl ⟨rfl, rfl, rfl, trivial⟩ ?_
            refine JL_callF' (Asks.cons (holds_of_mem (by repeat (first | with_reducible exact mm0 | refine mmS ?_))) (Asks.cons (holds_of_mem (by repeat (first | with_reducible exact mm0 | refine mmS ?_))) (Asks.cons (holds_of_mem (by repeat (first | with_reducible exact mm0 | refine mmS ?_))) (Asks.cons (holds_of_mem (by repeat (first | with_reducible exact mm0 | refine mmS ?_))) Asks.nil)))) (fcmpq_con (FIn.some ((qs_absq hqo).mono (by decide))) (FIn.some (hqR.mono (by decide)))) rfl ca23 ⟨rfl, rfl, rfl⟩ ?_
            rintro _ _ ⟨rfl, rfl⟩
            refine JL_gtr rfl rfl ?_
            refine JL_split (fun h57 => ?_) (fun h57 => ?_)
            · refine JL_done_up 61 [box _ _ [_, _, _], box _ _ [_, _, _], box _ _ [_, _, _], box _ _ [_, _, _], box _ _ [_, _, _]] [_, _, _, _, _, _, _, _, _, _, _] rfl rfl (by simp only [nrmF]; rfl) rfl rfl ?_
              refine JC_true rfl ?_
              refine JC_region ?_
              refine JL_loadA (vs := [_, _, _]) 4 ty35 rfl rfl ⟨rfl, rfl, rfl, trivial⟩ ?_
              refine JL_store (vs := [_, _, _]) 2 ty35 rfl rfl rfl (AllOne.cons rfl (AllOne.cons rfl (AllOne.cons rfl AllOne.nil))) rfl (Nat.le_of_ble_eq_true rfl) ?_
              refine JL_nil_up 61 [box _ _ [_, _, _], box _ _ [_, _, _], box _ _ [_, _, _], box _ _ [_, _, _], box _ _ [_, _, _]] [_, _, _, _, _, _, _, _, _, _, _] rfl rfl (by simp only [nrmF]; rfl) rfl rfl ?_
              refine JE_block_normal ?_
              refine JE_then ?_
              refine JC_region ?_
              refine JL_add_to rfl rfl (IntWalk.i64_in _ (by omega)) ?_
              refine JL_move rfl ?_
              refine JL_nil_up 61 [box _ _ [_, _, _], box _ _ [_, _, _], box _ _ [_, _, _], box _ _ [_, _, _], box _ _ [_, _, _]] [_, _, _, _, _, _, _, _, _, _, _] rfl rfl (by simp only [nrmF]; rfl) rfl rfl ?_
              refine JE_dropAt 4 ?_
              refine JE_norm _ [box _ _ [_, _, _], box _ _ [_, _, _], box _ _ [_, _, _], box _ _ [_, _, _]] [_, _, _, _, _, _, _, _, _, _, _] rfl rfl rfl ?_
              refine JE_dropAt 3 ?_
              refine JE_norm _ [box _ _ [_, _, _], box _ _ [_, _, _], box _ _ [_, _, _]] [_, _, _, _, _, _, _, _, _, _, _] rfl rfl rfl ?_
              refine JE_nextS (i + 1, absq (offR (L.getD i 0) q1 m), ad53, cp53, be53, ce53) (by kernel_rfl) ?_ ?_ (by kernel_rfl) ?_
              · subst hR; exact ⟨by omega, errR_up (cmpQ_pos.1 h57)⟩
              · first | omega | (dsimp only; omega)
              · exact subset_app (subset_cons (by repeat (first | with_reducible exact mm0 | refine mmS ?_)) (subset_cons (by repeat (first | with_reducible exact mm0 | refine mmS ?_)) subset_nil)) (ssS (ssS (ssS (ssS (ssS (ssS ss0))))))
            · refine JL_done_up 61 [box _ _ [_, _, _], box _ _ [_, _, _], box _ _ [_, _, _], box _ _ [_, _, _], box _ _ [_, _, _]] [_, _, _, _, _, _, _, _, _, _, _] rfl rfl (by simp only [nrmF]; rfl) rfl rfl ?_
              refine JC_false rfl ?_
              refine JC_skip ?_
              refine JE_block_normal ?_
              refine JE_then ?_
              refine JC_region ?_
              refine JL_add_to rfl rfl (IntWalk.i64_in _ (by omega)) ?_
              refine JL_move rfl ?_
              refine JL_nil_up 61 [box _ _ [_, _, _], box _ _ [_, _, _], box _ _ [_, _, _], box _ _ [_, _, _], box _ _ [_, _, _]] [_, _, _, _, _, _, _, _, _, _, _] rfl rfl (by simp only [nrmF]; rfl) rfl rfl ?_
              refine JE_dropAt 4 ?_
              refine JE_norm _ [box _ _ [_, _, _], box _ _ [_, _, _], box _ _ [_, _, _], box _ _ [_, _, _]] [_, _, _, _, _, _, _, _, _, _, _] rfl rfl rfl ?_
              refine JE_dropAt 3 ?_
              refine JE_norm _ [box _ _ [_, _, _], box _ _ [_, _, _], box _ _ [_, _, _]] [_, _, _, _, _, _, _, _, _, _, _] rfl rfl rfl ?_
              refine JE_nextS (i + 1, q, ad, c, be, e) (by kernel_rfl) ?_ ?_ (by kernel_rfl) ?_
              · subst hR; exact ⟨by omega, errR_no (fun e => h57 (cmpQ_pos.2 e))⟩
              · first | omega | (dsimp only; omega)
              · exact subset_app (subset_cons (by repeat (first | with_reducible exact mm0 | refine mmS ?_)) (subset_cons (by repeat (first | with_reducible exact mm0 | refine mmS ?_)) subset_nil)) (ssS (ssS (ssS (ssS (ssS (ssS ss0))))))
          · refine JL_done_up 61 [box _ _ [_, _, _], box _ _ [_, _, _], box _ _ [_, _, _]] [_, _, _, _, _, _, _] rfl rfl (by simp only [nrmF]; rfl) rfl rfl ?_
            refine JC_seq ?_
            refine JC_false rfl ?_
            refine JC_exit ?_
            refine JE_then_exit ?_
            refine JE_nextS_exit ?_
            refine JE_block_exit ?_
            refine JE_then ?_
            refine JC_seq ?_
            refine JC_region ?_
            refine JL_loadA (vs := [_, _, _]) 2 ty35 rfl rfl ⟨rfl, rfl, rfl, trivial⟩ ?_
            refine JL_store (vs := [_, _, _]) 1 ty35 rfl rfl rfl (AllOne.cons rfl (AllOne.cons rfl (AllOne.cons rfl AllOne.nil))) rfl (Nat.le_of_ble_eq_true rfl) ?_
            refine JL_assign rfl ?_
            refine JL_done_up 61 [box _ _ [_, _, _], box _ _ [_, _, _], box _ _ [_, _, _]] [_, _, _, _, _, _, _] rfl rfl (by simp only [nrmF]; rfl) rfl rfl ?_
            refine JC_ret ?_
            have hie : i = L.length := by omega
            subst hie
            have he : errE L q1 m = 0 := errE_ok h19 h24 h30 (by omega)
            refine JE_ret (vs := [_, _]) [vCells ad (u32s (fnum (some (q)))), vCells be (u32s (fden (some (q))))] Tryd.results25 ⟨RV.cell (vs := [_, _, _]) 1 ty35 rfl rfl ⟨rfl, rfl, rfl, trivial⟩, rfl, rfl⟩ ?_ ?_
            · rw [errO_ok he, he, hR]; exact ⟨ad, c, be, e, rfl, rfl⟩
            · exact (all_cons (by repeat (first | with_reducible exact mm0 | refine mmS ?_)) (all_cons (by repeat (first | with_reducible exact mm0 | refine mmS ?_)) all_nil))
    · refine JL_not rfl ?_
      rw [Bool.not_false]
      refine JL_assign rfl ?_
      refine JL_done_up 61 [box _ _ [_, _, _], box _ _ [_, _, _]] [_, _, _] rfl rfl (by simp only [nrmF]; rfl) rfl rfl ?_
      refine JC_true rfl ?_
      refine JC_seq ?_
      refine JC_region ?_
      refine JL_build (cs := [_, _, _]) [] st35 rfl rfl ?_
      refine JL_store (vs := [_, _, _]) 1 ty35 rfl rfl rfl (AllOne.cons rfl (AllOne.cons rfl (AllOne.cons rfl AllOne.nil))) rfl (Nat.le_of_ble_eq_true rfl) ?_
      refine JL_assign rfl ?_
      refine JL_done_up 61 [box _ _ [_, _, _], box _ _ [_, _, _]] [_, _, _] rfl rfl (by simp only [nrmF]; rfl) rfl rfl ?_
      refine JC_ret ?_
      refine JE_block_ret ?_
      refine JE_then_ret ?_
      have he : errE L q1 m ≠ 0 := by rw [errE_unit h19 h24]; first | assumption | decide
      refine JE_nilView ?_
      refine JE_ret (vs := [_, _]) [vCells none (u32s []), vCells none (u32s [])] Tryd.results25 ⟨RV.cell (vs := [_, _, _]) 1 ty35 rfl rfl ⟨rfl, rfl, rfl, trivial⟩, rfl, rfl⟩ ?_ ?_
      · rw [errO_no he, errE_unit h19 h24]; exact ⟨none, 0, none, 0, rfl, rfl⟩
      · exact (all_cons (by repeat (first | with_reducible exact mm0 | refine mmS ?_)) (all_cons (by repeat (first | with_reducible exact mm0 | refine mmS ?_)) all_nil))

set_option maxHeartbeats 1000000 in
theorem iscore_con {tol m : Int} {ad : Option Addr} {c : Nat} {L : List Int} {s1 : Bool} {ad1 : Option Addr} {n1 c1 : Nat} {L1 : List Nat} {be1 : Option Addr} {m1 e1 : Nat} {M1 : List Nat} {q1 : Rat} (g1 : FIn s1 n1 L1 m1 M1 q1 10) :
    ConF Tryd.prog 26 [.slice ad L.length c, .agg #[.bool s1, .slice ad1 n1 c1, .slice be1 m1 e1], .int .i64 tol, .int .i64 m] [vCells ad (i64s L), vCells ad1 (u32s L1), vCells be1 (u32s M1)]
      (fun v φo => v = .tuple #[.int .i64 (scoK L q1 tol m), .int .i64 (scoE L q1 tol m)] ∧ φo = []) := by
  refine ConF_of Tryd.func26 rfl 44 _ rfl rfl ?_
  intro w0
  refine JC_norm ⟨44, [], [_, _, _, _, _, _, _, _, _, _, _, _, _, _, _, _, _, _, _, _, _, _, _, _, _, _, _, _, _, _, _, _, _, _, _, _, _, _, _, _, _, _, _, _]⟩ [] [_, _, _] rfl rfl rfl ?_
  refine JC_seq ?_
  refine JC_region ?_
  refine JL_box rfl rfl (fun b5 => ?_)
  refine JL_assign rfl ?_
  refine JL_assign rfl ?_
  refine JL_done_up 44 [box _ _ [_, _, _]] [_, _, _] rfl rfl (by simp only [nrmF]; rfl) rfl rfl ?_
  refine JC_seq ?_
  refine JC_seq ?_
  refine JC_region ?_
  refine JL_move rfl ?_
  refine JL_callF' (Asks.cons (holds_of_mem (by repeat (first | with_reducible exact mm0 | refine mmS ?_))) Asks.nil) (icheck_con) rfl ca48 ⟨rfl, rfl⟩ ?_
  rintro _ _ ⟨rfl, rfl⟩
  refine JL_assign rfl ?_
  refine JL_done_up 44 [box _ _ [_, _, _]] [_, _, _] rfl rfl (by simp only [nrmF]; rfl) rfl rfl ?_
  refine JC_seq ?_
  refine JC_region ?_
  refine JL_move rfl ?_
  refine JL_neq rfl rfl ?_
  refine JL_split (fun h18 => ?_) (fun h18 => ?_)
  · refine JL_done_up 44 [box _ _ [_, _, _]] [_, _, _] rfl rfl (by simp only [nrmF]; rfl) rfl rfl ?_
    refine JC_true rfl ?_
    refine JC_seq ?_
    refine JC_region ?_
    refine JL_move rfl ?_
    refine JL_assign rfl ?_
    refine JL_assign rfl ?_
    refine JL_done_up 44 [box _ _ [_, _, _]] [_, _, _] rfl rfl (by simp only [nrmF]; rfl) rfl rfl ?_
    refine JC_ret ?_
    refine JE_then_ret ?_
    have he : scoE L q1 tol m ≠ 0 := by rw [scoE_chk h18]; first | assumption | decide
    refine JE_ret (vs := [_, _]) [] Tryd.results26 ⟨rfl, rfl, rfl⟩ ?_ ?_
    · rw [scoK_no he, scoE_chk h18]; exact ⟨rfl, rfl⟩
    · exact all_nil
  · refine JL_done_up 44 [box _ _ [_, _, _]] [_, _, _] rfl rfl (by simp only [nrmF]; rfl) rfl rfl ?_
    refine JC_false rfl ?_
    refine JC_skip ?_
    refine JE_then ?_
    refine JC_seq ?_
    refine JC_seq ?_
    refine JC_region ?_
    refine JL_loadA (vs := [_, _, _]) 0 ty35 rfl rfl ⟨rfl, rfl, rfl, trivial⟩ ?_
    refine JL_callF' (Asks.cons (holds_of_mem (by repeat (first | with_reducible exact mm0 | refine mmS ?_))) (Asks.cons (holds_of_mem (by repeat (first | with_reducible exact mm0 | refine mmS ?_))) Asks.nil)) (iunit_con (g1.mono (by decide))) rfl ca37 ⟨rfl, rfl⟩ ?_
    rintro _ _ ⟨rfl, rfl⟩
    refine JL_split (fun h21 => ?_) (fun h21 => ?_)
    · refine JL_not rfl ?_
      rw [Bool.not_true]
      refine JL_done_up 44 [box _ _ [_, _, _]] [_, _, _] rfl rfl (by simp only [nrmF]; rfl) rfl rfl ?_
      refine JC_false rfl ?_
      refine JC_skip ?_
      refine JE_then ?_
      refine JC_seq ?_
      refine JC_seq ?_
      refine JC_region ?_
      refine JL_move rfl ?_
      refine JL_move rfl ?_
      refine JL_callF' Asks.nil (ilim_con) rfl ca31 ⟨rfl, rfl, rfl⟩ ?_
      rintro _ _ ⟨rfl, rfl⟩
      refine JL_assign rfl ?_
      refine JL_done_up 44 [box _ _ [_, _, _]] [_, _, _] rfl rfl (by simp only [nrmF]; rfl) rfl rfl ?_
      refine JC_seq ?_
      refine JC_region ?_
      refine JL_move rfl ?_
      refine JL_neq rfl rfl ?_
      refine JL_split (fun h27 => ?_) (fun h27 => ?_)
      · refine JL_done_up 44 [box _ _ [_, _, _]] [_, _, _] rfl rfl (by simp only [nrmF]; rfl) rfl rfl ?_
        refine JC_true rfl ?_
        refine JC_seq ?_
        refine JC_region ?_
        refine JL_move rfl ?_
        refine JL_assign rfl ?_
        refine JL_assign rfl ?_
        refine JL_done_up 44 [box _ _ [_, _, _]] [_, _, _] rfl rfl (by simp only [nrmF]; rfl) rfl rfl ?_
        refine JC_ret ?_
        refine JE_then_ret ?_
        have he : scoE L q1 tol m ≠ 0 := by rw [scoE_lim h18 h21]; first | assumption | decide
        refine JE_ret (vs := [_, _]) [] Tryd.results26 ⟨rfl, rfl, rfl⟩ ?_ ?_
        · rw [scoK_no he, scoE_lim h18 h21]; exact ⟨rfl, rfl⟩
        · exact all_nil
      · refine JL_done_up 44 [box _ _ [_, _, _]] [_, _, _] rfl rfl (by simp only [nrmF]; rfl) rfl rfl ?_
        refine JC_false rfl ?_
        refine JC_skip ?_
        refine JE_then ?_
        refine JC_seq ?_
        obtain ⟨hn64, hws⟩ := chkE_zero (Classical.byContradiction h18)
        refine JC_region ?_
        refine JL_assign rfl ?_
        refine JL_done_up 44 [box _ _ [_, _, _]] [_, _, _] rfl rfl (by simp only [nrmF]; rfl) rfl rfl ?_
        refine JC_seq ?_
        refine JC_seq ?_
        refine JC_region ?_
        refine JL_move rfl ?_
        refine JL_len sl54 rfl ?_
        refine JL_move rfl ?_
        refine JL_done_up 44 [box _ _ [_, _, _]] [_, _, _] rfl rfl (by simp only [nrmF]; rfl) rfl rfl ?_
        refine JC_block ?_
        refine JC_loopS ((Nat) × (Int)) (fun (i, n) => i ≤ L.length ∧ scoN L q1 tol m i = n) (fun (i, n) => L.length - i) (fun u (i, n) => [none, none, none, none, none, none, none, none, none, none, none, none, some (.int .i64 n), none, some (u 14), none, none, none, none, none, none, none, none, none, none, none, none, none, none, none, none, some (.int .i64 (i : Nat)), some (u 32), some (u 33), some (u 34), some (u 35), some (u 36), some (u 37), some (u 38), some (u 39), some (u 40), some (u 41), some (u 42), none]) (fun (i, n) => [none]) (fun (i, n) => []) (0, 0) (by kernel_rfl) ?_ (by kernel_rfl) ?_ ?_
        · exact ⟨Nat.zero_le _, rfl⟩
        · exact subset_nil
        intro u i hC
        obtain ⟨i, n⟩ := i
        obtain ⟨hi, hN⟩ := hC
        refine JC_norm ⟨44, [], [_, _, _, _, _, _, _, _, _, _, _, _, _, _, _, _, _, _, _, _, _, _, _, _, _, _, _, _, _, _, _, _, _, _, _, _, _, _, _, _, _, _, _, _]⟩ [box _ _ [_, _, _]] [_, _, _] rfl rfl rfl ?_
        refine JC_seq ?_
        refine JC_region ?_
        refine JL_lss rfl rfl ?_
        refine JL_split (fun h32 => ?_) (fun h32 => ?_)
        · refine JL_done_up 44 [box _ _ [_, _, _]] [_, _, _] rfl rfl (by simp only [nrmF]; rfl) rfl rfl ?_
          refine JC_seq ?_
          refine JC_true rfl ?_
          refine JC_skip ?_
          refine JE_then ?_
          refine JC_seq ?_
          refine JC_block ?_
          refine JC_seq ?_
          refine JC_region ?_
          refine JL_idx i sl54 rfl rfl rfl (by omega) (by first | exact Reads.view (by repeat (first | with_reducible exact mm0 | refine mmS ?_))) (by first | (rw [u32s_length]; omega) | (rw [i64s_length]; omega)) ?_
          refine JL_loadE ty3 rfl (by first | exact Reads.view (by repeat (first | with_reducible exact mm0 | refine mmS ?_))) (i64s_get (by omega)) ?_
          refine JL_assign rfl ?_
          refine JL_done_up 44 [box _ _ [_, _, _]] [_, _, _] rfl rfl (by simp only [nrmF]; rfl) rfl rfl ?_
          refine JC_seq ?_
          have hnb := scoN_in L q1 tol m i
          refine JC_region ?_
          refine JL_move rfl ?_
          refine JL_loadA (vs := [_, _, _]) 0 ty35 rfl rfl ⟨rfl, rfl, rfl, trivial⟩ ?_
          refine JL_move rfl ?_
          refine JL_move rfl ?_
          refine JL_callF' (Asks.cons (holds_of_mem (by repeat (first | with_reducible exact mm0 | refine mmS ?_))) (Asks.cons (holds_of_mem (by repeat (first | with_reducible exact mm0 | refine mmS ?_))) Asks.nil)) (ifits_con (w := L.getD i 0) g1) rfl ca14 ⟨rfl, rfl, rfl, rfl, rfl⟩ ?_
          rintro _ _ ⟨rfl, rfl⟩
          refine JL_splitV (fun h39 => ?_) (fun h39 => ?_)
          · refine JL_done_up 44 [box _ _ [_, _, _]] [_, _, _] rfl rfl (by simp only [nrmF]; rfl) rfl rfl ?_
            refine JC_true rfl ?_
            refine JC_region ?_
            refine JL_move rfl ?_
            refine JL_add_to rfl rfl (IntWalk.i64_in _ (by omega)) ?_
            refine JL_assign rfl ?_
            refine JL_nil_up 44 [box _ _ [_, _, _]] [_, _, _] rfl rfl (by simp only [nrmF]; rfl) rfl rfl ?_
            refine JE_block_normal ?_
            refine JE_then ?_
            refine JC_region ?_
            refine JL_add_to rfl rfl (IntWalk.i64_in _ (by omega)) ?_
            refine JL_move rfl ?_
            refine JL_nil_up 44 [box _ _ [_, _, _]] [_, _, _] rfl rfl (by simp only [nrmF]; rfl) rfl rfl ?_
            refine JE_nextS (i + 1, n + 1) (by kernel_rfl) ?_ ?_ (by kernel_rfl) ?_
            · subst hN; exact ⟨by omega, scoN_hit h39⟩
            · first | omega | (dsimp only; omega)
            · exact subset_app subset_nil ss0
          · refine JL_done_up 44 [box _ _ [_, _, _]] [_, _, _] rfl rfl (by simp only [nrmF]; rfl) rfl rfl ?_
            refine JC_false rfl ?_
            refine JC_skip ?_
            refine JE_block_normal ?_
            refine JE_then ?_
            refine JC_region ?_
            refine JL_add_to rfl rfl (IntWalk.i64_in _ (by omega)) ?_
            refine JL_move rfl ?_
            refine JL_nil_up 44 [box _ _ [_, _, _]] [_, _, _] rfl rfl (by simp only [nrmF]; rfl) rfl rfl ?_
            refine JE_nextS (i + 1, n) (by kernel_rfl) ?_ ?_ (by kernel_rfl) ?_
            · subst hN; exact ⟨by omega, scoN_miss (ne_true_of_eq_false h39)⟩
            · first | omega | (dsimp only; omega)
            · exact subset_app subset_nil ss0
        · refine JL_done_up 44 [box _ _ [_, _, _]] [_, _, _] rfl rfl (by simp only [nrmF]; rfl) rfl rfl ?_
          refine JC_seq ?_
          refine JC_false rfl ?_
          refine JC_exit ?_
          refine JE_then_exit ?_
          refine JE_nextS_exit ?_
          refine JE_block_exit ?_
          refine JE_then ?_
          refine JC_seq ?_
          refine JC_region ?_
          refine JL_move rfl ?_
          refine JL_assign rfl ?_
          refine JL_assign rfl ?_
          refine JL_done_up 44 [box _ _ [_, _, _]] [_, _, _] rfl rfl (by simp only [nrmF]; rfl) rfl rfl ?_
          refine JC_ret ?_
          have hie : i = L.length := by omega
          subst hie
          have he : scoE L q1 tol m = 0 := by rw [scoE_lim h18 h21]; exact Classical.byContradiction h27
          refine JE_ret (vs := [_, _]) [] Tryd.results26 ⟨rfl, rfl, rfl⟩ ?_ ?_
          · rw [scoK_ok he, he, hN]; exact ⟨rfl, rfl⟩
          · exact all_nil
    · refine JL_not rfl ?_
      rw [Bool.not_false]
      refine JL_done_up 44 [box _ _ [_, _, _]] [_, _, _] rfl rfl (by simp only [nrmF]; rfl) rfl rfl ?_
      refine JC_true rfl ?_
      refine JC_seq ?_
      refine JC_region ?_
      refine JL_assign rfl ?_
      refine JL_assign rfl ?_
      refine JL_done_up 44 [box _ _ [_, _, _]] [_, _, _] rfl rfl (by simp only [nrmF]; rfl) rfl rfl ?_
      refine JC_ret ?_
      refine JE_then_ret ?_
      have he : scoE L q1 tol m ≠ 0 := by rw [scoE_unit h18 h21]; first | assumption | decide
      refine JE_ret (vs := [_, _]) [] Tryd.results26 ⟨rfl, rfl, rfl⟩ ?_ ?_
      · rw [scoK_no he, scoE_unit h18 h21]; exact ⟨rfl, rfl⟩
      · exact all_nil

end Go.Fw.K
