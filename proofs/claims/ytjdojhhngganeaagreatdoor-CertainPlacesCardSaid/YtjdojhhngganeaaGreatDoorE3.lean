/- Walks through functions of the given program: each meets its contract. (Printed by a program of this repo.) -/
import Derived.Test.YtjdojhhngganeaaGreatDoorE2
import Derived.Test.YtjdojhhngganeaaGreatDoorG
import Derived.Test.YtjdojhhngganeaaGreatDoorProg
namespace Go.Fw.E3
open Go Go.RowKit Go.Proofs Go.Nat9 Go.Fw
attribute [local irreducible] JC JL JE
theorem ca24 : callable Tryz.prog 24 = true := by kernel_rfl
theorem ca35 : callable Tryz.prog 35 = true := by kernel_rfl
theorem ca48 : callable Tryz.prog 48 = true := by kernel_rfl
theorem ca70 : callable Tryz.prog 70 = true := by kernel_rfl
theorem ca71 : callable Tryz.prog 71 = true := by kernel_rfl
theorem mixed : Tryz.prog.follows .mixedOrders = true := by kernel_rfl
theorem sl57 : slOf Tryz.prog 57 = some (3, 1, 8, [.int .i64 0]) := by kernel_rfl
theorem st36 : stOf Tryz.prog 36 = some ([(0, 1), (1, 1), (2, 1)], [.bool false, .slice none 0 0, .slice none 0 0]) := by kernel_rfl
theorem ty3 : tyOf Tryz.prog 3 = some (false, 1) := by kernel_rfl
theorem ty36 : tyOf Tryz.prog 36 = some (true, 3) := by kernel_rfl
theorem z36 : zeroOf Tryz.prog 36 = some [.bool false, .slice none 0 0, .slice none 0 0] := by kernel_rfl
end Go.Fw.E3
namespace Go.Fw.K
open Go Go.RowKit Go.Proofs Go.Nat9 Go.Fw Go.Fw.E3
attribute [local irreducible] JC JL JE

set_option maxHeartbeats 2000000 in
theorem rbounds_con {ad : Option Addr} {c : Nat} {l : List Pr} {n : Int} (hln : l.length ≤ 1000000) :
    ConF Tryz.prog 35 [.int .i64 n, .slice ad l.length c] [vCells ad (pcells l)]
      (LLE (lowR n l) (higR n l) (seqE n l)) := by
  refine ConF_of Tryz.func35 rfl 59 _ rfl rfl ?_; intro w0; refine JC_norm ⟨59, [], [_, _, _, _, _, _, _, _, _, _, _, _, _, _, _, _, _, _, _, _, _, _, _, _, _, _, _, _, _, _, _, _, _, _, _, _, _, _, _, _, _, _, _, _, _, _, _, _, _, _, _, _, _, _, _, _, _, _, _]⟩ [] [_] rfl rfl rfl ?_; refine JC_sr ?_; refine JL_assign rfl ?_; refine JL_assign rfl ?_; refine JL_assign rfl ?_; refine JL_du 59 [] [_] ?_; refine JC_seq ?_; refine JC_sr ?_; refine JL_m ?_; refine JL_m ?_; refine JL_callF' (Asks.cons (holds_of_mem am) Asks.nil) (rchk_con hln) rfl ca24 ⟨rfl, rfl, rfl⟩ ?_; rintro _ _ ⟨rfl, rfl⟩; refine JL_assign rfl ?_; refine JL_du 59 [] [_] ?_; refine JC_sr ?_; refine JL_m ?_; refine JL_neq rfl rfl ?_; refine JL_split (fun h19 => ?_) (fun h19 => ?_)
  · refine JL_du 59 [] [_] ?_; refine JC_true rfl ?_; refine JC_sr ?_; refine JL_m ?_; refine JL_assign rfl ?_; refine JL_assign rfl ?_; refine JL_assign rfl ?_; refine JL_du 59 [] [_] ?_; refine JC_ret ?_; refine JE_then_ret ?_; refine JE_addView (f := true) (p := vCells none (i64s [])) (fun _ _ => nilI) ?_; refine JE_ret (vs := [_, _, _]) [vCells none (i64s []), vCells none (i64s [])] Tryz.results35 ⟨rfl, rfl, rfl, rfl⟩ ?_ ?_
    · rw [(low_no h19).1, (low_no h19).2]; exact ⟨none, 0, none, 0, rfl, rfl⟩
    · exact (all_cons am (all_cons am all_nil))
  · refine JL_du 59 [] [_] ?_; refine JC_false rfl ?_; refine JC_skip ?_; refine JE_then ?_; refine JC_seq ?_; obtain ⟨m, rfl, hC⟩ := cert_of (Classical.byContradiction h19)
    have hten := hC.ten
    refine JC_region ?_; refine JL_assign rfl ?_; refine JL_assign rfl ?_; refine JL_du 59 [] [_] ?_; refine JC_seq ?_; refine JC_sr ?_; refine JL_assign rfl ?_; refine JL_du 59 [] [_] ?_; refine JC_block ?_; refine JC_addNil 3 1 ?_; refine JC_norm ⟨59, [], [_, _, _, _, _, _, _, _, _, _, _, _, _, _, _, _, _, _, _, _, _, _, _, _, _, _, _, _, _, _, _, _, _, _, _, _, _, _, _, _, _, _, _, _, _, _, _, _, _, _, _, _, _, _, _, _, _, _, _]⟩ [osl _ _ _ _ _ _] [_] rfl rfl rfl ?_; refine JC_addNil 3 1 ?_; refine JC_norm ⟨59, [], [_, _, _, _, _, _, _, _, _, _, _, _, _, _, _, _, _, _, _, _, _, _, _, _, _, _, _, _, _, _, _, _, _, _, _, _, _, _, _, _, _, _, _, _, _, _, _, _, _, _, _, _, _, _, _, _, _, _, _]⟩ [osl _ _ _ _ _ _, osl _ _ _ _ _ _] [_] rfl rfl rfl ?_
    refine JC_loopS ((Nat) × (List Int) × (List Int) × (Option Addr) × (Nat) × (Nat) × (Option Addr) × (Nat) × (Nat)) (fun (i, A, B, ad1, c1, n1, ad2, c2, n2) => i ≤ m ∧ (lowP m l i = A ∧ higP m l i = B) ∧ n1 = A.length ∧ n2 = B.length) (fun (i, A, B, ad1, c1, n1, ad2, c2, n2) => m - i) (fun u (i, A, B, ad1, c1, n1, ad2, c2, n2) => [none, none, none, none, none, none, none, none, some (.slice ad1 n1 c1), some (.slice ad2 n2 c2), some (.int .i64 (i : Nat)), some (u 11), some (u 12), some (u 13), some (u 14), none, none, none, none, none, none, some (u 21), some (u 22), some (u 23), some (u 24), some (u 25), some (u 26), some (u 27), some (u 28), some (u 29), some (u 30), some (u 31), some (u 32), some (u 33), some (u 34), some (u 35), some (u 36), some (u 37), some (u 38), some (u 39), some (u 40), some (u 41), some (u 42), some (u 43), some (u 44), some (u 45), some (u 46), some (u 47), some (u 48), some (u 49), some (u 50), some (u 51), some (u 52), some (u 53), some (u 54), some (u 55), some (u 56), none, none]) (fun (i, A, B, ad1, c1, n1, ad2, c2, n2) => [some (osl ad1 n1 c1 3 1 (i64s A)), some (osl ad2 n2 c2 3 1 (i64s B))]) (fun (i, A, B, ad1, c1, n1, ad2, c2, n2) => []) (0, [], [], none, 0, 0, none, 0, 0) (by kernel_rfl) ?_ (by kernel_rfl) ?_ ?_
    · exact ⟨Nat.zero_le _, ⟨rfl, rfl⟩, rfl, rfl⟩
    · exact subset_nil
    intro u i hC; obtain ⟨i, A, B, ad1, c1, n1, ad2, c2, n2⟩ := i; obtain ⟨hi, ⟨hA, hB⟩, hn1, hn2⟩ := hC; refine JC_nm 59 [osl _ _ _ _ _ _, osl _ _ _ _ _ _] [_] ?_
    have hA1 := lowP_len m l i
    have hB1 := higP_len m l i
    rw [hA] at hA1; rw [hB] at hB1; refine JC_seq ?_; refine JC_sr ?_; refine JL_m ?_; refine JL_m ?_; refine JL_lss rfl rfl ?_; refine JL_split (fun h23 => ?_) (fun h23 => ?_)
    · refine JL_du 59 [osl _ _ _ _ _ _, osl _ _ _ _ _ _] [_] ?_; refine JC_true rfl ?_; refine JC_skip ?_; refine JE_then ?_; refine JC_seq ?_; refine JC_block ?_; refine JC_seq ?_
      have him : i < m := by omega
      have hpl := placeL_len m l i
      have hlh := low_high hC him
      refine JC_region ?_; refine JL_m ?_; refine JL_m ?_; refine JL_m ?_; refine JL_callF' (Asks.cons (by first | exact holds_of_mem am | (exact holds_of_own 0 rfl) | (exact holds_of_own 1 rfl)) Asks.nil) (rplace_con (i0 := (i : Int)) hln) rfl ca70 ⟨rfl, rfl, rfl, rfl⟩ ?_; rintro _ _ ⟨ad30, c30, rfl, hc30, rfl⟩; rw [(plc_ok hC him).1, (plc_ok hC him).2]; refine JL_m ?_; refine JL_extract rfl rfl ?_; refine JL_extract rfl rfl ?_; refine JL_assign rfl ?_; refine JL_assign rfl ?_; refine JL_du 59 [osl _ _ _ _ _ _, osl _ _ _ _ _ _] [_, _] ?_; refine JC_sr ?_; refine JL_m ?_; refine JL_sub_to rfl rfl (IntWalk.i64_in _ (by omega)) ?_; rw [show ((m : Int) - 1 : Int) = ((m - 1 : Nat) : Int) from by omega]; refine JL_assign rfl ?_; refine JL_assign rfl ?_; refine JL_du 59 [osl _ _ _ _ _ _, osl _ _ _ _ _ _] [_, _] ?_; refine JC_seq ?_; refine JC_block ?_
      refine JC_loopS ((Nat)) (fun (x : Nat) => x ≤ ancN m l i) (fun (x : Nat) => m - x) (fun u (x : Nat) => [none, none, none, none, none, none, none, none, none, none, none, none, none, some (.int .i64 (x : Nat)), none, none, none, none, none, none, none, none, none, none, none, none, none, none, none, none, none, none, none, none, none, some (u 35), some (u 36), some (u 37), some (u 38), some (u 39), some (u 40), some (u 41), none, none, none, none, none, none, none, none, none, none, none, none, none, none, none, none, none]) (fun (x : Nat) => [none, none]) (fun (x : Nat) => []) (0) (by kernel_rfl) ?_ (by kernel_rfl) ?_ ?_
      · exact Nat.zero_le _
      · exact subset_nil
      intro u x hx; refine JC_nm 59 [osl _ _ _ _ _ _, osl _ _ _ _ _ _] [_, _] ?_; refine JC_seq ?_; refine JC_sr ?_; refine JL_m ?_; refine JL_m ?_; refine JL_idx x sl57 rfl rfl rfl (by omega) (by first | exact Reads.view am | (exact Reads.own 0 rfl) | (exact Reads.own 1 rfl)) (by first | (rw [u32s_length]; omega) | (rw [i64s_length]; omega)) ?_; refine JL_loadE ty3 rfl (by first | exact Reads.view am | (exact Reads.own 0 rfl) | (exact Reads.own 1 rfl)) (i64s_get (by omega)) ?_; refine JL_eql rfl rfl ?_; refine JL_split (fun h39 => ?_) (fun h39 => ?_)
      · refine JL_du 59 [osl _ _ _ _ _ _, osl _ _ _ _ _ _] [_, _] ?_; refine JC_true rfl ?_; refine JC_skip ?_; refine JE_then ?_; refine JC_block ?_; refine JC_region ?_; refine JL_m ?_; refine JL_add_to rfl rfl (IntWalk.i64_in _ (by omega)) ?_; refine JL_assign rfl ?_; refine JL_nu 59 [osl _ _ _ _ _ _, osl _ _ _ _ _ _] [_, _] ?_; refine JE_block_normal ?_; refine JE_nextS (x + 1) (by kernel_rfl) ?_ ?_ (by kernel_rfl) ?_
        · exact low_zero hC him hx h39
        · first | omega | (dsimp only; omega)
        · exact subset_app subset_nil ss0
      · refine JL_du 59 [osl _ _ _ _ _ _, osl _ _ _ _ _ _] [_, _] ?_; refine JC_false rfl ?_; refine JC_exit ?_; refine JE_then_exit ?_; refine JE_nextS_exit ?_; refine JE_block_exit ?_; refine JE_then ?_; refine JC_seq ?_; refine JC_block ?_; obtain rfl := low_stop hC him hx h39; refine JC_loopS ((Nat)) (fun (y : Nat) => m ≤ y + 1 + dscN m l i ∧ y < m) (fun (y : Nat) => y) (fun u (y : Nat) => [none, none, none, none, none, none, none, none, none, none, none, none, none, none, some (.int .i64 (y : Nat)), none, none, none, none, none, none, none, none, none, none, none, none, none, none, none, none, none, none, none, none, none, none, none, none, none, none, none, some (u 42), some (u 43), some (u 44), some (u 45), some (u 46), some (u 47), some (u 48), none, none, none, none, none, none, none, none, none, none]) (fun (y : Nat) => [none, none]) (fun (y : Nat) => []) (m - 1) (by kernel_rfl) ?_ (by kernel_rfl) ?_ ?_
        · exact ⟨by omega, by omega⟩
        · exact subset_nil
        intro u y hC; obtain ⟨hy, hym⟩ := hC; refine JC_nm 59 [osl _ _ _ _ _ _, osl _ _ _ _ _ _] [_, _] ?_; refine JC_seq ?_; refine JC_sr ?_; refine JL_m ?_; refine JL_m ?_; refine JL_idx y sl57 rfl rfl rfl (by omega) (by first | exact Reads.view am | (exact Reads.own 0 rfl) | (exact Reads.own 1 rfl)) (by first | (rw [u32s_length]; omega) | (rw [i64s_length]; omega)) ?_; refine JL_loadE ty3 rfl (by first | exact Reads.view am | (exact Reads.own 0 rfl) | (exact Reads.own 1 rfl)) (i64s_get (by omega)) ?_; refine JL_eql rfl rfl ?_; refine JL_split (fun h46 => ?_) (fun h46 => ?_)
        · refine JL_du 59 [osl _ _ _ _ _ _, osl _ _ _ _ _ _] [_, _] ?_; refine JC_true rfl ?_; refine JC_skip ?_; refine JE_then ?_; refine JC_block ?_; refine JC_region ?_; refine JL_m ?_
          have hyz := (high_zero hC him hy hym h46).1
          refine JL_sub_to rfl rfl (IntWalk.i64_in _ (by omega)) ?_; rw [show ((y : Int) - 1 : Int) = ((y - 1 : Nat) : Int) from by omega]; refine JL_assign rfl ?_; refine JL_nu 59 [osl _ _ _ _ _ _, osl _ _ _ _ _ _] [_, _] ?_; refine JE_block_normal ?_; refine JE_nextS (y - 1) (by kernel_rfl) ?_ ?_ (by kernel_rfl) ?_
          · exact ⟨(high_zero hC him hy hym h46).2, by omega⟩
          · have := (high_zero hC him hy hym h46).1; omega
          · exact subset_app subset_nil ss0
        · refine JL_du 59 [osl _ _ _ _ _ _, osl _ _ _ _ _ _] [_, _] ?_; refine JC_false rfl ?_; refine JC_exit ?_; refine JE_then_exit ?_; refine JE_nextS_exit ?_; refine JE_block_exit ?_; refine JE_then ?_; refine JC_seq ?_; rw [high_stop hC him hy hym h46]; refine JC_region ?_; refine JL_m ?_; refine JL_m ?_; refine JL_build1 sl57 rfl rfl (fun g51 => ?_); refine JL_appendI (L := A) 0 2 sl57 rfl rfl rfl rfl (by omega) (by omega) (fun ad52 cap52 hc52 => ?_); refine JL_dropAt 2 ?_; refine JL_norm _ [osl _ _ _ _ _ _, osl _ _ _ _ _ _] [_, _] rfl rfl rfl ?_; refine JL_assign rfl ?_; refine JL_du 59 [osl _ _ _ _ _ _, osl _ _ _ _ _ _] [_, _] ?_; refine JC_region ?_; refine JL_m ?_; refine JL_m ?_; refine JL_build1 sl57 rfl rfl (fun g55 => ?_); refine JL_appendI (L := B) 1 2 sl57 rfl rfl rfl rfl (by omega) (by omega) (fun ad56 cap56 hc56 => ?_); refine JL_dropAt 2 ?_; refine JL_norm _ [osl _ _ _ _ _ _, osl _ _ _ _ _ _] [_, _] rfl rfl rfl ?_; refine JL_assign rfl ?_; refine JL_nu 59 [osl _ _ _ _ _ _, osl _ _ _ _ _ _] [_, _] ?_; refine JE_block_normal ?_; refine JE_then ?_; refine JC_region ?_; refine JL_m ?_
          refine JL_add_to rfl rfl (IntWalk.i64_in _ (by omega)) ?_; refine JL_assign rfl ?_; refine JL_nu 59 [osl _ _ _ _ _ _, osl _ _ _ _ _ _] [_, _] ?_; refine JE_nextS (i + 1, A ++ [((ancN m l i : Nat) : Int)], B ++ [(m : Int) - 1 - ((dscN m l i : Nat) : Int)], ad52, cap52, n1 + 1, ad56, cap56, n2 + 1) (by kernel_rfl) ?_ ?_ (by kernel_rfl) ?_
          · exact ⟨by omega, ⟨by rw [lowP, hA], by rw [higP, hB]⟩, by rw [List.length_append, hn1]; rfl, by rw [List.length_append, hn2]; rfl⟩
          · first | omega | (dsimp only; omega)
          · exact subset_app subset_nil (ssS ss0)
    · refine JL_du 59 [osl _ _ _ _ _ _, osl _ _ _ _ _ _] [_] ?_; refine JC_false rfl ?_; refine JC_exit ?_; refine JE_then_exit ?_; refine JE_nextS_exit ?_; refine JE_block_exit ?_; refine JE_then ?_; refine JC_seq ?_
      have hie : i = m := by omega
      rw [hie] at hA hB; subst hn1; subst hn2; refine JC_region ?_; refine JL_m ?_; refine JL_m ?_; refine JL_assign rfl ?_; refine JL_assign rfl ?_; refine JL_assign rfl ?_; refine JL_du 59 [osl _ _ _ _ _ _, osl _ _ _ _ _ _] [_] ?_; refine JC_ret ?_; refine JE_give 0 rfl ?_; refine JE_norm _ [osl _ _ _ _ _ _] [_, _] rfl rfl rfl ?_; refine JE_give 0 rfl ?_; refine JE_norm _ [] [_, _, _] rfl rfl rfl ?_; refine JE_ret (vs := [_, _, _]) [vCells ad1 (i64s A), vCells ad2 (i64s B)] Tryz.results35 ⟨rfl, rfl, rfl, rfl⟩ ?_ ?_
      · rw [(low_ok hC).1, (low_ok hC).2, hA, hB, hC.ok]; exact ⟨ad1, c1, ad2, c2, rfl, rfl⟩
      · exact (all_cons am (all_cons am all_nil))

set_option maxHeartbeats 2000000 in
theorem rfixed_con {ad : Option Addr} {c : Nat} {l : List Pr} {n : Int} (hln : l.length ≤ 1000000) :
    ConF Tryz.prog 36 [.int .i64 n, .slice ad l.length c] [vCells ad (pcells l)]
      (SPI (fixR n l) (seqE n l)) := by
  refine ConF_of Tryz.func36 rfl 40 _ rfl rfl ?_; intro w0; refine JC_norm ⟨40, [], [_, _, _, _, _, _, _, _, _, _, _, _, _, _, _, _, _, _, _, _, _, _, _, _, _, _, _, _, _, _, _, _, _, _, _, _, _, _, _, _]⟩ [] [_] rfl rfl rfl ?_; refine JC_sr ?_; refine JL_assign rfl ?_; refine JL_assign rfl ?_; refine JL_du 40 [] [_] ?_; refine JC_sr ?_; refine JL_m ?_; refine JL_m ?_; refine JL_callF' (Asks.cons (holds_of_mem am) Asks.nil) (rbounds_con hln) rfl ca35 ⟨rfl, rfl, rfl⟩ ?_; rintro _ _ ⟨ad14, c14, be14, e14, rfl, rfl⟩; refine JL_m ?_; refine JL_extract rfl rfl ?_; refine JL_extract rfl rfl ?_; refine JL_extract rfl rfl ?_; refine JL_assign rfl ?_; refine JL_assign rfl ?_; refine JL_assign rfl ?_; refine JL_du 40 [] [_, _, _] ?_; refine JC_seq ?_; refine JC_sr ?_; refine JL_m ?_; refine JL_neq rfl rfl ?_; refine JL_split (fun h19 => ?_) (fun h19 => ?_)
  · refine JL_du 40 [] [_, _, _] ?_; refine JC_true rfl ?_; refine JC_sr ?_; refine JL_m ?_; refine JL_assign rfl ?_; refine JL_assign rfl ?_; refine JL_du 40 [] [_, _, _] ?_; refine JC_ret ?_; refine JE_then_ret ?_; refine JE_addView (f := true) (p := vCells none (i64s [])) (fun _ _ => nilI) ?_; refine JE_ret (vs := [_, _]) [vCells none (i64s [])] Tryz.results36 ⟨rfl, rfl, rfl⟩ ?_ ?_
    · rw [fix_no h19]; exact ⟨none, 0, rfl, caps0, rfl⟩
    · exact (all_cons am all_nil)
  · refine JL_du 40 [] [_, _, _] ?_; refine JC_false rfl ?_; refine JC_skip ?_; refine JE_then ?_; refine JC_seq ?_; obtain ⟨m, rfl, hC⟩ := cert_of (Classical.byContradiction h19)
    have hten := hC.ten
    rw [(low_ok hC).1, (low_ok hC).2]
    have hll := lowP_len m l m
    have hhl := higP_len m l m
    refine JC_region ?_; refine JL_assign rfl ?_; refine JL_du 40 [] [_, _, _] ?_; refine JC_seq ?_; refine JC_sr ?_; refine JL_assign rfl ?_; refine JL_du 40 [] [_, _, _] ?_; refine JC_block ?_; refine JC_addNil 3 1 ?_; refine JC_norm ⟨40, [], [_, _, _, _, _, _, _, _, _, _, _, _, _, _, _, _, _, _, _, _, _, _, _, _, _, _, _, _, _, _, _, _, _, _, _, _, _, _, _, _]⟩ [osl _ _ _ _ _ _] [_, _, _] rfl rfl rfl ?_; refine JC_loopS ((Nat) × (List Int) × (Option Addr) × (Nat) × (Nat)) (fun (i, A, ad1, c1, n1) => i ≤ m ∧ fixP m l i = A ∧ n1 = A.length) (fun (i, A, ad1, c1, n1) => m - i) (fun u (i, A, ad1, c1, n1) => [none, none, none, none, none, none, none, none, none, some (.slice ad1 n1 c1), some (.int .i64 (i : Nat)), none, none, none, none, none, none, none, none, none, none, some (u 21), some (u 22), some (u 23), some (u 24), some (u 25), some (u 26), some (u 27), some (u 28), some (u 29), some (u 30), some (u 31), some (u 32), some (u 33), some (u 34), some (u 35), some (u 36), some (u 37), some (u 38), none]) (fun (i, A, ad1, c1, n1) => [some (osl ad1 n1 c1 3 1 (i64s A))]) (fun (i, A, ad1, c1, n1) => []) (0, [], none, 0, 0) (by kernel_rfl) ?_ (by kernel_rfl) ?_ ?_
    · exact ⟨Nat.zero_le _, rfl, rfl⟩
    · exact subset_nil
    intro u i hC; obtain ⟨i, A, ad1, c1, n1⟩ := i; obtain ⟨hi, hA, hn1⟩ := hC; refine JC_nm 40 [osl _ _ _ _ _ _] [_, _, _] ?_
    have hA1 := fixP_len m l i
    rw [hA] at hA1; refine JC_seq ?_; refine JC_sr ?_; refine JL_m ?_; refine JL_m ?_; refine JL_lss rfl rfl ?_; refine JL_split (fun h23 => ?_) (fun h23 => ?_)
    · refine JL_du 40 [osl _ _ _ _ _ _] [_, _, _] ?_; refine JC_true rfl ?_; refine JC_skip ?_; refine JE_then ?_; refine JC_seq ?_; refine JC_block ?_; refine JC_seq ?_; refine JC_drawT mixed 8 [spV 26 [] _, spV 27 [] _, spV 28 [0, 1] _, spV 29 [2] _, spV 30 [] _, spV 31 [] _, spV 32 [4, 5] _, spV 33 [6] _] ⟨oM, oM, OblS_V (fun vals ex ψ => (by refine JL_normQ _ (_ :: _ :: _ :: ψ) rfl rfl ?_; refine JL_idx i sl57 rfl rfl rfl (by omega) (by first | exact Reads.view am | (exact Reads.own 0 rfl)) (by first | (rw [u32s_length]; omega) | (rw [i64s_length]; omega)) ?_; exact vz rfl)), OblS_V (fun vals ex ψ => (by refine JL_normQ _ (_ :: _ :: _ :: ψ) rfl rfl ?_; refine JL_loadE ty3 rfl (by first | exact Reads.view am | (exact Reads.own 0 rfl)) (i64s_get (by omega)) ?_; rw [lowP_at m l (show i < m by omega)]; exact vz rfl)), oM, oM, OblS_V (fun vals ex ψ => (by refine JL_normQ _ (_ :: _ :: _ :: ψ) rfl rfl ?_; refine JL_idx i sl57 rfl rfl rfl (by omega) (by first | exact Reads.view am | (exact Reads.own 0 rfl)) (by first | (rw [u32s_length]; omega) | (rw [i64s_length]; omega)) ?_; exact vz rfl)), OblS_V (fun vals ex ψ => (by refine JL_normQ _ (_ :: _ :: _ :: ψ) rfl rfl ?_; refine JL_loadE ty3 rfl (by first | exact Reads.view am | (exact Reads.own 0 rfl)) (i64s_get (by omega)) ?_; rw [higP_at m l (show i < m by omega)]; exact vz rfl)), trivial⟩ (by kernel_rfl) (fun vals bs => ?_)
      refine JL_normL [_] ⟨40, [(26, _), (27, _), (28, _), (29, _), (30, _), (31, _), (32, _), (33, _)], _⟩ [osl _ _ _ _ _ _] [_, _, _] rfl rfl rfl rfl ?_; refine JL_eql rfl rfl ?_; refine JL_split (fun h34 => ?_) (fun h34 => ?_)
      · refine JL_du 40 [osl _ _ _ _ _ _] [_, _, _] ?_; refine JC_true rfl ?_; refine JC_region ?_; refine JL_m ?_; refine JL_m ?_; refine JL_build1 sl57 rfl rfl (fun g37 => ?_); refine JL_appendI (L := A) 0 1 sl57 rfl rfl rfl rfl (by omega) (by omega) (fun ad38 cap38 hc38 => ?_); refine JL_dropAt 1 ?_; refine JL_norm _ [osl _ _ _ _ _ _] [_, _, _] rfl rfl rfl ?_; refine JL_assign rfl ?_; refine JL_nu 40 [osl _ _ _ _ _ _] [_, _, _] ?_; refine JE_block_normal ?_; refine JE_then ?_; refine JC_region ?_; refine JL_m ?_; refine JL_add_to rfl rfl (IntWalk.i64_in _ (by omega)) ?_; refine JL_assign rfl ?_; refine JL_nu 40 [osl _ _ _ _ _ _] [_, _, _] ?_; refine JE_nextS (i + 1, A ++ [(i : Int)], ad38, cap38, n1 + 1) (by kernel_rfl) ?_ ?_ (by kernel_rfl) ?_
        · exact ⟨by omega, by rw [fixP, if_pos h34, hA], by rw [List.length_append, hn1]; rfl⟩
        · first | omega | (dsimp only; omega)
        · exact subset_app subset_nil ss0
      · refine JL_du 40 [osl _ _ _ _ _ _] [_, _, _] ?_; refine JC_false rfl ?_; refine JC_skip ?_; refine JE_block_normal ?_; refine JE_then ?_; refine JC_region ?_; refine JL_m ?_; refine JL_add_to rfl rfl (IntWalk.i64_in _ (by omega)) ?_; refine JL_assign rfl ?_; refine JL_nu 40 [osl _ _ _ _ _ _] [_, _, _] ?_; refine JE_nextS (i + 1, A, ad1, c1, n1) (by kernel_rfl) ?_ ?_ (by kernel_rfl) ?_
        · exact ⟨by omega, by rw [fixP, if_neg h34, hA], hn1⟩
        · first | omega | (dsimp only; omega)
        · exact subset_app subset_nil ss0
    · refine JL_du 40 [osl _ _ _ _ _ _] [_, _, _] ?_; refine JC_false rfl ?_; refine JC_exit ?_; refine JE_then_exit ?_; refine JE_nextS_exit ?_; refine JE_block_exit ?_; refine JE_then ?_; refine JC_seq ?_
      have hie : i = m := by omega
      rw [hie] at hA; subst hn1; refine JC_ownCap 0 rfl (fun hcap => ?_); refine JC_region ?_; refine JL_m ?_; refine JL_assign rfl ?_; refine JL_assign rfl ?_; refine JL_du 40 [osl _ _ _ _ _ _] [_, _, _] ?_; refine JC_ret ?_; refine JE_give 0 rfl ?_; refine JE_norm _ [] [_, _, _, _] rfl rfl rfl ?_; refine JE_ret (vs := [_, _]) [vCells ad1 (i64s A)] Tryz.results36 ⟨rfl, rfl, rfl⟩ ?_ ?_
      · rw [fix_ok hC, hA, hC.ok]; exact ⟨ad1, c1, rfl, hcap, rfl⟩
      · exact (all_cons am all_nil)

set_option maxHeartbeats 1000000 in
theorem rmean_con {ad : Option Addr} {c : Nat} {l : List Pr} {n i0 : Int} (hln : l.length ≤ 1000000) :
    ConF Tryz.prog 37 [.int .i64 n, .slice ad l.length c, .int .i64 i0] [vCells ad (pcells l)]
      (FOE (meanO n l i0) (meanE n l i0)) := by
  refine ConF_of Tryz.func37 rfl 47 _ rfl rfl ?_; intro w0; refine JC_norm ⟨47, [], [_, _, _, _, _, _, _, _, _, _, _, _, _, _, _, _, _, _, _, _, _, _, _, _, _, _, _, _, _, _, _, _, _, _, _, _, _, _, _, _, _, _, _, _, _, _, _]⟩ [] [_] rfl rfl rfl ?_; refine JC_sr ?_; refine JL_alloc z36 (fun b6 => ?_); refine JL_assign rfl ?_; refine JL_du 47 [box _ _ [_, _, _]] [_] ?_; refine JC_sr ?_; refine JL_m ?_; refine JL_m ?_; refine JL_m ?_; refine JL_callF' (Asks.cons (holds_of_mem am) Asks.nil) (rplace_con hln) rfl ca70 ⟨rfl, rfl, rfl, rfl⟩ ?_; rintro _ _ ⟨ad18, c18, rfl, hc18, rfl⟩; refine JL_m ?_; refine JL_extract rfl rfl ?_; refine JL_extract rfl rfl ?_; refine JL_assign rfl ?_; refine JL_assign rfl ?_; refine JL_du 47 [box _ _ [_, _, _]] [_, _] ?_; refine JC_seq ?_; refine JC_sr ?_; refine JL_m ?_; refine JL_neq rfl rfl ?_; refine JL_split (fun h22 => ?_) (fun h22 => ?_)
  · refine JL_du 47 [box _ _ [_, _, _]] [_, _] ?_; refine JC_true rfl ?_; refine JC_sr ?_; refine JL_build (cs := [_, _, _]) [] st36 rfl rfl ?_; refine JL_m ?_; refine JL_store (vs := [_, _, _]) 0 ty36 rfl rfl rfl (AllOne.cons rfl (AllOne.cons rfl (AllOne.cons rfl AllOne.nil))) rfl (Nat.le_of_ble_eq_true rfl) ?_; refine JL_assign rfl ?_; refine JL_du 47 [box _ _ [_, _, _]] [_, _] ?_; refine JC_ret ?_; refine JE_then_ret ?_; refine JE_nilView ?_; refine JE_ret (vs := [_, _]) [vCells none (u32s []), vCells none (u32s [])] Tryz.results37 ⟨RV.cell (vs := [_, _, _]) 0 ty36 rfl rfl ⟨rfl, rfl, rfl, trivial⟩, rfl, rfl⟩ ?_ ?_
    · exact ⟨none, 0, none, 0, by rw [(mean_bad h22).1, (mean_bad h22).2]; rfl, by rw [(mean_bad h22).1]; rfl⟩
    · exact (all_cons am (all_cons am all_nil))
  · refine JL_du 47 [box _ _ [_, _, _]] [_, _] ?_; refine JC_false rfl ?_; refine JC_skip ?_; refine JE_then ?_; refine JC_seq ?_; obtain ⟨m, i, rfl, rfl, him, hC⟩ := plcE_ok (Classical.byContradiction h22)
    have hten := hC.ten
    rw [(plc_ok hC him).1]
    have hpl := placeL_len m l i
    refine JC_region ?_; refine JL_assign rfl ?_; refine JL_du 47 [box _ _ [_, _, _]] [_, _] ?_; refine JC_seq ?_; refine JC_sr ?_; refine JL_assign rfl ?_; refine JL_du 47 [box _ _ [_, _, _]] [_, _] ?_; refine JC_block ?_; refine JC_loopS ((Nat) × (Int)) (fun (k, z) => k ≤ m ∧ sumP (placeL m l i) k = z) (fun (k, z) => m - k) (fun u (k, z) => [none, none, none, none, none, none, none, none, none, none, some (.int .i64 z), some (.int .i64 (k : Nat)), none, none, none, none, none, none, none, none, none, none, none, none, none, some (u 25), some (u 26), some (u 27), some (u 28), some (u 29), some (u 30), some (u 31), some (u 32), some (u 33), some (u 34), some (u 35), some (u 36), some (u 37), none, none, none, none, none, none, none, none, none]) (fun (k, z) => [none]) (fun (k, z) => []) (0, 0) (by kernel_rfl) ?_ (by kernel_rfl) ?_ ?_
    · exact ⟨Nat.zero_le _, rfl⟩
    · exact subset_nil
    intro u i hC; obtain ⟨k, z⟩ := i; obtain ⟨hk, hz⟩ := hC; refine JC_nm 47 [box _ _ [_, _, _]] [_, _] ?_; refine JC_seq ?_; refine JC_sr ?_; refine JL_m ?_; refine JL_m ?_; refine JL_lss rfl rfl ?_; refine JL_split (fun h27 => ?_) (fun h27 => ?_)
    · refine JL_du 47 [box _ _ [_, _, _]] [_, _] ?_; refine JC_true rfl ?_; refine JC_skip ?_; refine JE_then ?_; refine JC_seq ?_; refine JC_block ?_; obtain ⟨p, hpm, hpb⟩ := mean_step (a := l) (v := i) hten (show k < m by omega)
      have hzb := sumP_in hten (a := l) (v := i) (show k ≤ m by omega)
      rw [hz] at hzb; refine JC_region ?_; refine JL_m ?_; refine JL_m ?_; refine JL_m ?_; refine JL_m ?_; refine JL_idx k sl57 rfl rfl rfl (by omega) (by first | exact Reads.view am) (by first | (rw [u32s_length]; omega) | (rw [i64s_length]; omega)) ?_; refine JL_loadE ty3 rfl (by first | exact Reads.view am) (i64s_get (by omega)) ?_; refine JL_mul_to rfl rfl (i64_of hpm (by omega) (by omega)) ?_; refine JL_add_to rfl rfl (IntWalk.i64_in _ (by omega)) ?_; refine JL_assign rfl ?_; refine JL_nu 47 [box _ _ [_, _, _]] [_, _] ?_; refine JE_block_normal ?_; refine JE_then ?_; refine JC_region ?_; refine JL_m ?_; refine JL_add_to rfl rfl (IntWalk.i64_in _ (by omega)) ?_; refine JL_assign rfl ?_; refine JL_nu 47 [box _ _ [_, _, _]] [_, _] ?_; refine JE_nextS (k + 1, z + ((p : Nat) : Int)) (by kernel_rfl) ?_ ?_ (by kernel_rfl) ?_
      · exact ⟨by omega, by rw [sumP, hz, hpm]⟩
      · first | omega | (dsimp only; omega)
      · exact subset_app subset_nil ss0
    · refine JL_du 47 [box _ _ [_, _, _]] [_, _] ?_; refine JC_false rfl ?_; refine JC_exit ?_; refine JE_then_exit ?_; refine JE_nextS_exit ?_; refine JE_block_exit ?_; refine JE_then ?_; refine JC_seq ?_
      have hke : k = m := by omega
      obtain rfl : z = ((posS m l i : Nat) : Int) := by rw [← hz, hke]; exact sumP_full him
      have hs1 := seqs_le (a := l) hten
      have hs2 := posS_le (a := l) hten him
      refine JC_region ?_; refine JL_m ?_; refine JL_m ?_; refine JL_callF' (Asks.cons (holds_of_mem am) Asks.nil) (rcnt_con hln) rfl ca71 ⟨rfl, rfl, rfl⟩ ?_; rintro _ _ ⟨rfl, rfl⟩; rw [cntN_len hC.dg hten]; refine JL_m ?_; refine JL_extract rfl rfl ?_; refine JL_extract rfl rfl ?_; refine JL_assign rfl ?_; refine JL_assign rfl ?_; refine JL_du 47 [box _ _ [_, _, _]] [_, _] ?_; refine JC_sr ?_; refine JL_m ?_; refine JL_m ?_; refine JL_callF' Asks.nil (rofi_con _ _ (by omega) (by omega)) rfl ca48 ⟨rfl, rfl, rfl⟩ ?_; rintro _ _ ⟨ad46, cp46, be46, ce46, rfl, rfl⟩; rw [show ofq ((posS m l i : Nat) : Int) (((seqsL m l).length : Nat) : Int) = meanQ m l i from rfl]; refine JL_store (vs := [_, _, _]) 0 ty36 rfl rfl rfl (AllOne.cons rfl (AllOne.cons rfl (AllOne.cons rfl AllOne.nil))) rfl (Nat.le_of_ble_eq_true rfl) ?_; refine JL_assign rfl ?_; refine JL_du 47 [box _ _ [_, _, _]] [_, _, _, _] ?_; refine JC_ret ?_; refine JE_ret (vs := [_, _]) [vCells ad46 (u32s (fnum (some (meanQ m l i)))), vCells be46 (u32s (fden (some (meanQ m l i))))] Tryz.results37 ⟨RV.cell (vs := [_, _, _]) 0 ty36 rfl rfl ⟨rfl, rfl, rfl, trivial⟩, rfl, rfl⟩ ?_ ?_
      · exact ⟨ad46, cp46, be46, ce46, by rw [(mean_ok hC him).1, (mean_ok hC him).2]; rfl, by rw [(mean_ok hC him).1]⟩
      · exact (all_cons am (all_cons am all_nil))

theorem bints_con {ad1 ad2 : Option Addr} {c1 c2 : Nat} {L : List Int} (hln : L.length ≤ 1000000) :
    ConF Tryz.prog 38 [.slice ad1 L.length c1, .slice ad2 L.length c2] [vCells ad1 (i64s L), vCells ad2 (i64s L)]
      (fun v φo => v = .bool (true) ∧ φo = []) := by
  refine ConF_of Tryz.func38 rfl 26 _ rfl rfl ?_; intro w0; refine JC_norm ⟨26, [], [_, _, _, _, _, _, _, _, _, _, _, _, _, _, _, _, _, _, _, _, _, _, _, _, _, _]⟩ [] [_, _] rfl rfl rfl ?_; refine JC_sr ?_; refine JL_assign rfl ?_; refine JL_du 26 [] [_, _] ?_; refine JC_seq ?_; refine JC_sr ?_; refine JL_m ?_; refine JL_len sl57 rfl ?_; refine JL_m ?_; refine JL_len sl57 rfl ?_; refine JL_neq rfl rfl ?_; refine JL_split (fun h10 => ?_) (fun h10 => ?_)
  · exact absurd rfl h10
  · refine JL_du 26 [] [_, _] ?_; refine JC_false rfl ?_; refine JC_skip ?_; refine JE_then ?_; refine JC_seq ?_; refine JC_sr ?_; refine JL_assign rfl ?_; refine JL_du 26 [] [_, _] ?_; refine JC_block ?_; refine JC_loopS ((Nat)) (fun (k : Nat) => k ≤ L.length) (fun (k : Nat) => L.length - k) (fun u (k : Nat) => [none, none, none, none, some (u 4), some (.int .i64 (k : Nat)), none, none, none, none, none, some (u 11), some (u 12), some (u 13), some (u 14), some (u 15), some (u 16), some (u 17), some (u 18), some (u 19), some (u 20), some (u 21), some (u 22), some (u 23), some (u 24), some (u 25)]) (fun (k : Nat) => []) (fun (k : Nat) => []) (0) (by kernel_rfl) ?_ (by kernel_rfl) ?_ ?_
    · exact Nat.zero_le _
    · exact subset_nil
    intro u k hk; refine JC_nm 26 [] [_, _] ?_; refine JC_seq ?_; refine JC_sr ?_; refine JL_m ?_; refine JL_m ?_; refine JL_len sl57 rfl ?_; refine JL_lss rfl rfl ?_; refine JL_split (fun h14 => ?_) (fun h14 => ?_)
    · refine JL_du 26 [] [_, _] ?_; refine JC_true rfl ?_; refine JC_skip ?_; refine JE_then ?_; refine JC_seq ?_; refine JC_block ?_; refine JC_seq ?_; refine JC_drawT mixed 8 [spV 17 [] _, spV 18 [] _, spV 19 [0, 1] _, spV 20 [2] _, spV 21 [] _, spV 22 [] _, spV 23 [4, 5] _, spV 24 [6] _] ⟨oM, oM, OblS_V (fun vals ex ψ => (by refine JL_normQ _ (_ :: _ :: ψ) rfl rfl ?_; refine JL_idx k sl57 rfl rfl rfl (by omega) (by first | exact Reads.view am) (by first | (rw [u32s_length]; omega) | (rw [i64s_length]; omega)) ?_; exact vz rfl)), OblS_V (fun vals ex ψ => (by refine JL_normQ _ (_ :: _ :: ψ) rfl rfl ?_; refine JL_loadE ty3 rfl (by first | exact Reads.view am) (i64s_get (by omega)) ?_; exact vz rfl)), oM, oM, OblS_V (fun vals ex ψ => (by refine JL_normQ _ (_ :: _ :: ψ) rfl rfl ?_; refine JL_idx k sl57 rfl rfl rfl (by omega) (by first | exact Reads.view am) (by first | (rw [u32s_length]; omega) | (rw [i64s_length]; omega)) ?_; exact vz rfl)), OblS_V (fun vals ex ψ => (by refine JL_normQ _ (_ :: _ :: ψ) rfl rfl ?_; refine JL_loadE ty3 rfl (by first | exact Reads.view am) (i64s_get (by omega)) ?_; exact vz rfl)), trivial⟩ (by kernel_rfl) (fun vals bs => ?_)
      refine JL_normL [_] ⟨26, [(17, _), (18, _), (19, _), (20, _), (21, _), (22, _), (23, _), (24, _)], _⟩ [] [_, _] rfl rfl rfl rfl ?_; refine JL_neq rfl rfl ?_; refine JL_split (fun h25 => ?_) (fun h25 => ?_)
      · exact absurd rfl h25
      · refine JL_du 26 [] [_, _] ?_; refine JC_false rfl ?_; refine JC_skip ?_; refine JE_block_normal ?_; refine JE_then ?_; refine JC_region ?_; refine JL_m ?_; refine JL_add_to rfl rfl (IntWalk.i64_in _ (by omega)) ?_; refine JL_assign rfl ?_; refine JL_nu 26 [] [_, _] ?_; refine JE_nextS (k + 1) (by kernel_rfl) ?_ ?_ (by kernel_rfl) ?_
        · exact (by omega : k + 1 ≤ L.length)
        · first | omega | (dsimp only; omega)
        · exact subset_app subset_nil ss0
    · refine JL_du 26 [] [_, _] ?_; refine JC_false rfl ?_; refine JC_exit ?_; refine JE_then_exit ?_; refine JE_nextS_exit ?_; refine JE_block_exit ?_; refine JE_then ?_; refine JC_sr ?_; refine JL_assign rfl ?_; refine JL_du 26 [] [_, _] ?_; refine JC_ret ?_; refine JE_ret (vs := [_]) [] Tryz.results38 ⟨rfl, rfl⟩ ?_ ?_
      · exact ⟨rfl, rfl⟩
      · exact all_nil

end Go.Fw.K
