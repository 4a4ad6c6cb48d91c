/- Walks through functions of the given program: each meets its contract. (Printed by a program of this repo.) -/
import Derived.Test.YtjdojhhngganeaaGreatDoorFwC
import Derived.Test.YtjdojhhngganeaaGreatDoorProg
namespace Go.Fw.W
open Go Go.RowKit Go.Proofs Go.Nat9 Go.Fw
attribute [local irreducible] JC JL JE
theorem ca117 : callable Tryz.prog 117 = true := by kernel_rfl
theorem ca118 : callable Tryz.prog 118 = true := by kernel_rfl
theorem ca135 : callable Tryz.prog 135 = true := by kernel_rfl
theorem ca136 : callable Tryz.prog 136 = true := by kernel_rfl
theorem ca83 : callable Tryz.prog 83 = true := by kernel_rfl
theorem ca84 : callable Tryz.prog 84 = true := by kernel_rfl
theorem ca85 : callable Tryz.prog 85 = true := by kernel_rfl
theorem ca86 : callable Tryz.prog 86 = true := by kernel_rfl
theorem ca90 : callable Tryz.prog 90 = true := by kernel_rfl
theorem ca91 : callable Tryz.prog 91 = true := by kernel_rfl
theorem fo34_0 : fOf Tryz.prog 34 0 = some 0 := by kernel_rfl
theorem it110 : intTy Tryz.prog 110 = some .u64 := by kernel_rfl
theorem it2 : intTy Tryz.prog 2 = some .i64 := by kernel_rfl
theorem it94 : intTy Tryz.prog 94 = some .u32 := by kernel_rfl
theorem mixed : Tryz.prog.follows .mixedOrders = true := by kernel_rfl
theorem sl32 : slOf Tryz.prog 32 = some (94, 1, 4, [.int .u32 0]) := by kernel_rfl
theorem st34 : stOf Tryz.prog 34 = some ([(0, 1)], [.slice none 0 0]) := by kernel_rfl
theorem ty32 : tyOf Tryz.prog 32 = some (false, 1) := by kernel_rfl
theorem ty34 : tyOf Tryz.prog 34 = some (true, 1) := by kernel_rfl
theorem ty94 : tyOf Tryz.prog 94 = some (false, 1) := by kernel_rfl
theorem us110 : (Tryz.prog.underlying 110).isSome = true := by kernel_rfl
theorem us2 : (Tryz.prog.underlying 2).isSome = true := by kernel_rfl
theorem us94 : (Tryz.prog.underlying 94).isSome = true := by kernel_rfl
theorem z34 : zeroOf Tryz.prog 34 = some [.slice none 0 0] := by kernel_rfl
end Go.Fw.W
namespace Go.Fw.K
open Go Go.RowKit Go.Proofs Go.Nat9 Go.Fw Go.Fw.W
attribute [local irreducible] JC JL JE

theorem trim_con (ad : Option Addr) (n cap : Nat) (L : List Nat) (x : Nat) (g : DIn n L x) (hc : n ≤ cap) (hm : cap ≤ 9223372036854775807) :
    ConA Tryz.prog 117 [.slice ad n cap] [vCells ad (u32s L)]
      (LS x) := by
  obtain ⟨rfl, hd, hv⟩ := g
  refine ConA_of Tryz.func117 rfl 21 _ rfl rfl ?_
  intro w0
  refine JC_norm ⟨21, [], [_, _, _, _, _, _, _, _, _, _, _, _, _, _, _, _, _, _, _, _, _]⟩ [] [_] rfl rfl rfl ?_
  refine JC_seq ?_
  refine JC_region ?_
  refine JL_assign rfl ?_
  refine JL_done_up 21 [] [_] rfl rfl (by simp only [nrmF]; rfl) rfl rfl ?_
  refine JC_seq ?_
  refine JC_block ?_
  refine JC_loopS ((Nat)) (fun (m : Nat) => m ≤ L.length ∧ trimL (L.take m) = trimL L) (fun (m : Nat) => m) (fun u (m : Nat) => [some (.slice ad m cap), none, none, some (u 3), some (u 4), some (u 5), some (u 6), some (u 7), some (u 8), some (u 9), some (u 10), some (u 11), some (u 12), some (u 13), some (u 14), some (u 15), some (u 16), some (u 17), some (u 18), some (u 19), none]) (fun (m : Nat) => []) (fun (m : Nat) => []) (L.length) (by kernel_rfl) ?_ (by kernel_rfl) ?_ ?_
  · exact ⟨Nat.le_refl _, by rw [List.take_length]⟩
  · exact subset_nil
  intro u m hC
  obtain ⟨hmL, hT⟩ := hC
  refine JC_norm ⟨21, [], [_, _, _, _, _, _, _, _, _, _, _, _, _, _, _, _, _, _, _, _, _]⟩ [] [_] rfl rfl rfl ?_
  refine JC_seq ?_
  refine JC_seq ?_
  refine JC_region ?_
  refine JL_move rfl ?_
  refine JL_len sl32 rfl ?_
  refine JL_gtr rfl rfl ?_
  refine JL_split (fun h5 => ?_) (fun h5 => ?_)
  · refine JL_move rfl ?_
    refine JL_guard_yes rfl rfl ?_
    refine JL_move rfl ?_
    refine JL_guard_yes rfl rfl ?_
    refine JL_move rfl ?_
    refine JL_guard_yes rfl rfl ?_
    refine JL_len sl32 rfl ?_
    refine JL_guard_yes rfl rfl ?_
    refine JL_sub_to rfl rfl (IntWalk.i64_in _ (by omega)) ?_
    refine JL_guard_yes rfl rfl ?_
    refine JL_idx (m - 1) sl32 rfl rfl (by omega) (by omega) (by first | exact Reads.view (by repeat (first | with_reducible exact mm0 | refine mmS ?_))) (by first | (rw [u32s_length]; omega) | (rw [i64s_length]; omega)) ?_
    refine JL_guard_yes rfl rfl ?_
    refine JL_loadE ty94 rfl (by first | exact Reads.view (by repeat (first | with_reducible exact mm0 | refine mmS ?_))) (u32s_get (by omega)) ?_
    refine JL_guard_yes rfl rfl ?_
    refine JL_eql rfl rfl ?_
    refine JL_split (fun h13 => ?_) (fun h13 => ?_)
    · refine JL_pick_t rfl rfl ?_
      refine JL_done_up 21 [] [_] rfl rfl (by simp only [nrmF]; rfl) rfl rfl ?_
      refine JC_true rfl ?_
      refine JC_skip ?_
      refine JE_then ?_
      refine JC_block ?_
      refine JC_region ?_
      refine JL_move rfl ?_
      refine JL_move rfl ?_
      refine JL_len sl32 rfl ?_
      refine JL_sub_to rfl rfl (IntWalk.i64_in _ (by omega)) ?_
      refine JL_sliceTo (m - 1) sl32 rfl rfl (by omega) (by omega) ?_
      refine JL_assign rfl ?_
      refine JL_nil_up 21 [] [_] rfl rfl (by simp only [nrmF]; rfl) rfl rfl ?_
      refine JE_block_normal ?_
      refine JE_nextS (m - 1) (by kernel_rfl) ?_ ?_ (by kernel_rfl) ?_
      · exact ⟨by omega, by rw [← hT]; have h := trimL_take L (m - 1) (by omega) (by omega); rw [Nat.sub_add_cancel (by omega)] at h; exact h.symm⟩
      · first | omega | (dsimp only; omega)
      · exact subset_app subset_nil ss0
    · refine JL_pick_t rfl rfl ?_
      refine JL_done_up 21 [] [_] rfl rfl (by simp only [nrmF]; rfl) rfl rfl ?_
      refine JC_false rfl ?_
      refine JC_exit ?_
      refine JE_then_exit ?_
      refine JE_nextS_exit ?_
      refine JE_block_exit ?_
      refine JE_then ?_
      refine JC_seq ?_
      refine JC_region ?_
      refine JL_move rfl ?_
      refine JL_assign rfl ?_
      refine JL_done_up 21 [] [_] rfl rfl (by simp only [nrmF]; rfl) rfl rfl ?_
      refine JC_ret ?_
      have hfin : limbsOf x = L.take m := by
        rw [← hv, ← trimL_spec L hd, ← hT]
        rcases Nat.eq_zero_or_pos m with h0 | h0
        · rw [h0]; rfl
        · have h := trimL_stop L (m - 1) (by omega) (by omega)
          rwa [Nat.sub_add_cancel h0] at h
      have hlen : (limbsOf x).length = m := by rw [hfin, List.length_take]; omega
      refine JE_viewTake m List.mem_cons_self ?_
      rw [u32s_take, ← hfin]
      refine JE_ret (vs := [_]) [vCells ad (u32s (limbsOf x))] Tryz.results117 ⟨rfl, rfl⟩ ?_ ?_
      · exact ⟨ad, cap, by rw [hlen]; rfl, by omega, hm, rfl⟩
      · exact (all_cons (by repeat (first | with_reducible exact mm0 | refine mmS ?_)) all_nil)
  · refine JL_move rfl ?_
    refine JL_guard_no rfl rfl ?_
    refine JL_guard_no rfl rfl ?_
    refine JL_guard_no rfl rfl ?_
    refine JL_guard_no rfl rfl ?_
    refine JL_guard_no rfl rfl ?_
    refine JL_guard_no rfl rfl ?_
    refine JL_guard_no rfl rfl ?_
    refine JL_pick_f rfl rfl ?_
    refine JL_done_up 21 [] [_] rfl rfl (by simp only [nrmF]; rfl) rfl rfl ?_
    refine JC_false rfl ?_
    refine JC_exit ?_
    refine JE_then_exit ?_
    refine JE_nextS_exit ?_
    refine JE_block_exit ?_
    refine JE_then ?_
    refine JC_seq ?_
    refine JC_region ?_
    refine JL_move rfl ?_
    refine JL_assign rfl ?_
    refine JL_done_up 21 [] [_] rfl rfl (by simp only [nrmF]; rfl) rfl rfl ?_
    refine JC_ret ?_
    have hfin : limbsOf x = L.take m := by
      rw [← hv, ← trimL_spec L hd, ← hT]
      rcases Nat.eq_zero_or_pos m with h0 | h0
      · rw [h0]; rfl
      · have h := trimL_stop L (m - 1) (by omega) (by omega)
        rwa [Nat.sub_add_cancel h0] at h
    have hlen : (limbsOf x).length = m := by rw [hfin, List.length_take]; omega
    refine JE_viewTake m List.mem_cons_self ?_
    rw [u32s_take, ← hfin]
    refine JE_ret (vs := [_]) [vCells ad (u32s (limbsOf x))] Tryz.results117 ⟨rfl, rfl⟩ ?_ ?_
    · exact ⟨ad, cap, by rw [hlen]; rfl, by omega, hm, rfl⟩
    · exact (all_cons (by repeat (first | with_reducible exact mm0 | refine mmS ?_)) all_nil)

theorem limbs_con (ad1 : Option Addr) (n1 c1 : Nat) (L1 : List Nat) (x1 : Nat) (g1 : NIn n1 L1 x1 100000000) :
    ConF Tryz.prog 84 [.agg #[.slice ad1 n1 c1]] [vCells ad1 (u32s L1)]
      (LS x1) := by
  obtain ⟨rfl, hu, hx1, hb⟩ := g1
  refine ConF_of Tryz.func84 rfl 38 _ rfl rfl ?_
  intro w0
  refine JC_norm ⟨38, [], [_, _, _, _, _, _, _, _, _, _, _, _, _, _, _, _, _, _, _, _, _, _, _, _, _, _, _, _, _, _, _, _, _, _, _, _, _, _]⟩ [] [_] rfl rfl rfl ?_
  refine JC_seq ?_
  refine JC_region ?_
  refine JL_box rfl rfl (fun b1 => ?_)
  refine JL_assign rfl ?_
  refine JL_done_up 38 [box _ _ [_]] [_] rfl rfl (by simp only [nrmF]; rfl) rfl rfl ?_
  refine JC_seq ?_
  refine JC_region ?_
  refine JL_fieldAddr fo34_0 rfl ?_
  refine JL_load 0 ty32 rfl rfl rfl ?_
  refine JL_len sl32 rfl ?_
  refine JL_add_to rfl rfl (IntWalk.i64_in _ (by omega)) ?_
  refine JL_make1 0 (L1.length + 1) sl32 rfl rfl rfl (by omega) (by omega) (by omega) (by omega) (fun g11 => ?_)
  rw [u32s_replicate]
  refine JL_assign rfl ?_
  refine JL_done_up 38 [box _ _ [_], osl _ _ _ _ _ _] [_] rfl rfl (by simp only [nrmF]; rfl) rfl rfl ?_
  refine JC_seq ?_
  refine JC_region ?_
  refine JL_assign rfl ?_
  refine JL_done_up 38 [box _ _ [_], osl _ _ _ _ _ _] [_] rfl rfl (by simp only [nrmF]; rfl) rfl rfl ?_
  refine JC_seq ?_
  refine JC_seq ?_
  refine JC_region ?_
  refine JL_fieldAddr fo34_0 rfl ?_
  refine JL_load 0 ty32 rfl rfl rfl ?_
  refine JL_len sl32 rfl ?_
  refine JL_move rfl ?_
  refine JL_done_up 38 [box _ _ [_], osl _ _ _ _ _ _] [_] rfl rfl (by simp only [nrmF]; rfl) rfl rfl ?_
  refine JC_block ?_
  refine JC_loopS ((Nat) × (List Nat) × (Nat) × (Option Addr) × (Nat)) (fun (k, out, c, ad, cap) => k ≤ L1.length ∧ out.length = k ∧ Dig out ∧ c ≤ 4 ∧ val out + 1000000000 ^ k * c = val (L1.take k) ∧ k ≤ cap ∧ cap ≤ 9223372036854775807) (fun (k, out, c, ad, cap) => L1.length - k) (fun u (k, out, c, ad, cap) => [none, none, none, some (.slice ad k cap), some (.int .u64 (c : Nat)), none, some (u 6), none, none, none, none, none, none, none, none, some (.int .i64 (k : Nat)), some (u 16), some (u 17), some (u 18), some (u 19), some (u 20), some (u 21), some (u 22), some (u 23), some (u 24), some (u 25), some (u 26), some (u 27), some (u 28), some (u 29), some (u 30), some (u 31), none, none, none, none, none, none]) (fun (k, out, c, ad, cap) => [none, some (osl ad k cap 94 1 (u32s out))]) (fun (k, out, c, ad, cap) => []) (0, [], 0, some ⟨g11, 0, none⟩, L1.length + 1) (by kernel_rfl) ?_ (by kernel_rfl) ?_ ?_
  · exact ⟨Nat.zero_le _, rfl, Dig.nil, by omega, by simp [val], by omega, by omega⟩
  · exact subset_nil
  intro u i hC
  obtain ⟨k, out, c, ad, cap⟩ := i
  obtain ⟨hk, ho, hd, hc, hv, hcap, hm⟩ := hC
  refine JC_norm ⟨38, [], [_, _, _, _, _, _, _, _, _, _, _, _, _, _, _, _, _, _, _, _, _, _, _, _, _, _, _, _, _, _, _, _, _, _, _, _, _, _]⟩ [box _ _ [_], osl _ _ _ _ _ _] [_] rfl rfl rfl ?_
  refine JC_seq ?_
  refine JC_region ?_
  refine JL_lss rfl rfl ?_
  refine JL_split (fun h16 => ?_) (fun h16 => ?_)
  · refine JL_done_up 38 [box _ _ [_], osl _ _ _ _ _ _] [_] rfl rfl (by simp only [nrmF]; rfl) rfl rfl ?_
    refine JC_seq ?_
    refine JC_true rfl ?_
    refine JC_skip ?_
    refine JE_then ?_
    refine JC_seq ?_
    refine JC_block ?_
    refine JC_seq ?_
    refine JC_region ?_
    have hx := hu.getD k
    refine JL_idx k sl32 rfl rfl rfl (by omega) (by first | exact Reads.view (by repeat (first | with_reducible exact mm0 | refine mmS ?_)) | (exact Reads.own 1 rfl)) (by first | (rw [u32s_length]; omega) | (rw [i64s_length]; omega)) ?_
    refine JL_loadE ty94 rfl (by first | exact Reads.view (by repeat (first | with_reducible exact mm0 | refine mmS ?_)) | (exact Reads.own 1 rfl)) (u32s_get (by omega)) ?_
    refine JL_assign rfl ?_
    refine JL_done_up 38 [box _ _ [_], osl _ _ _ _ _ _] [_] rfl rfl (by simp only [nrmF]; rfl) rfl rfl ?_
    refine JC_seq ?_
    refine JC_region ?_
    refine JL_move rfl ?_
    refine JL_move rfl ?_
    refine JL_convInt us94 it110 rfl (IntWalk.u64_in _ (by omega)) ?_
    refine JL_add_to rfl rfl (IntWalk.u64_in _ (by omega)) ?_
    refine JL_assign rfl ?_
    refine JL_done_up 38 [box _ _ [_], osl _ _ _ _ _ _] [_] rfl rfl (by simp only [nrmF]; rfl) rfl rfl ?_
    refine JC_seq ?_
    refine JC_region ?_
    refine JL_move rfl ?_
    refine JL_move rfl ?_
    refine JL_rem_to rfl rfl (by omega) (IntWalk.rem_in _ _ (by omega)) ?_
    refine JL_convInt us110 it94 rfl (IntWalk.u32_in _ (by omega)) ?_
    refine JL_build1 sl32 rfl rfl (fun g27 => ?_)
    refine JL_appendU (L := _) 1 2 ((c + L1.getD k 0) % 1000000000) sl32 rfl rfl rfl rfl (by omega) (by omega) (by omega) (fun ad28 cap28 hc28 => ?_)
    refine JL_dropAt 2 ?_
    refine JL_norm _ [box _ _ [_], osl _ _ _ _ _ _] [_] rfl rfl rfl ?_
    refine JL_assign rfl ?_
    refine JL_done_up 38 [box _ _ [_], osl _ _ _ _ _ _] [_] rfl rfl (by simp only [nrmF]; rfl) rfl rfl ?_
    refine JC_region ?_
    refine JL_move rfl ?_
    refine JL_quo_to rfl rfl (by omega) (IntWalk.u64_quo _ _ (by omega)) ?_
    refine JL_assign rfl ?_
    refine JL_nil_up 38 [box _ _ [_], osl _ _ _ _ _ _] [_] rfl rfl (by simp only [nrmF]; rfl) rfl rfl ?_
    refine JE_block_normal ?_
    refine JE_then ?_
    refine JC_region ?_
    refine JL_add_to rfl rfl (IntWalk.i64_in _ (by omega)) ?_
    refine JL_move rfl ?_
    refine JL_nil_up 38 [box _ _ [_], osl _ _ _ _ _ _] [_] rfl rfl (by simp only [nrmF]; rfl) rfl rfl ?_
    refine JE_nextS (k + 1, out ++ [(c + L1.getD k 0) % 1000000000], (c + L1.getD k 0) / 1000000000, ad28, cap28) (by kernel_rfl) ?_ ?_ (by kernel_rfl) ?_
    · exact ⟨by omega, by rw [len_snoc]; omega, dig_snoc hd (Nat.mod_lt _ (by decide)), by omega, limbs_step ho hv rfl, by omega, by omega⟩
    · first | omega | (dsimp only; omega)
    · exact subset_app subset_nil ss0
  · refine JL_done_up 38 [box _ _ [_], osl _ _ _ _ _ _] [_] rfl rfl (by simp only [nrmF]; rfl) rfl rfl ?_
    refine JC_seq ?_
    refine JC_false rfl ?_
    refine JC_exit ?_
    refine JE_then_exit ?_
    refine JE_nextS_exit ?_
    refine JE_block_exit ?_
    refine JE_then ?_
    refine JC_seq ?_
    refine JC_region ?_
    refine JL_move rfl ?_
    refine JL_move rfl ?_
    refine JL_convInt us110 it94 rfl (IntWalk.u32_in _ (by omega)) ?_
    refine JL_build1 sl32 rfl rfl (fun g35 => ?_)
    refine JL_appendU (L := _) 1 2 c sl32 rfl rfl rfl rfl (by omega) (by omega) (by omega) (fun ad36 cap36 hc36 => ?_)
    refine JL_dropAt 2 ?_
    refine JL_norm _ [box _ _ [_], osl _ _ _ _ _ _] [_] rfl rfl rfl ?_
    refine JL_give 1 rfl ?_
    refine JL_norm _ [box _ _ [_]] [_, _] rfl rfl rfl ?_
    refine JL_callA' true (AsksA.cons (holdsA_of_mem (by repeat (first | with_reducible exact mm0 | refine mmS ?_))) AsksA.nil) (trim_con _ _ _ _ _ ⟨(by first | rfl | assumption | (simp only [lenS]; omega)), (dig_snoc hd (by omega)), (by rw [val_snoc, ho, hv, val_take_all L1 k (by omega), hx1])⟩ (by omega) (by omega)) rfl ca117 ⟨rfl, rfl⟩ ?_
    rintro _ _ ⟨ad37, cap37, rfl, hk37, hm37, rfl⟩
    refine JL_assign rfl ?_
    refine JL_done_up 38 [box _ _ [_]] [_, _, _] rfl rfl (by simp only [nrmF]; rfl) rfl rfl ?_
    refine JC_ret ?_
    refine JE_ret (vs := [_]) [vCells ad37 (u32s (limbsOf (x1)))] Tryz.results84 ⟨rfl, rfl⟩ ?_ ?_
    · exact ⟨ad37, cap37, rfl, hk37, hm37, rfl⟩
    · exact (all_cons (by repeat (first | with_reducible exact mm0 | refine mmS ?_)) all_nil)

theorem made_con (ad : Option Addr) (n cap : Nat) (L : List Nat) (x : Nat) (g : DIn n L x) (hc : n ≤ cap) (hm : cap ≤ 9223372036854775807) :
    ConA Tryz.prog 85 [.slice ad n cap] [vCells ad (u32s L)]
      (LN x) := by
  refine ConA_of Tryz.func85 rfl 11 _ rfl rfl ?_
  intro w0
  refine JC_norm ⟨11, [], [_, _, _, _, _, _, _, _, _, _, _]⟩ [] [_] rfl rfl rfl ?_
  refine JC_seq ?_
  refine JC_region ?_
  refine JL_alloc z34 (fun b2 => ?_)
  refine JL_done_up 11 [box _ _ [_]] [_] rfl rfl (by simp only [nrmF]; rfl) rfl rfl ?_
  refine JC_seq ?_
  refine JC_region ?_
  refine JL_move rfl ?_
  refine JL_callA' true (AsksA.cons (holdsA_of_mem (by repeat (first | with_reducible exact mm0 | refine mmS ?_))) AsksA.nil) (trim_con _ _ _ _ _ g hc hm) rfl ca117 ⟨rfl, rfl⟩ ?_
  rintro _ _ ⟨ad4, cap4, rfl, hk4, hm4, rfl⟩
  refine JL_assign rfl ?_
  refine JL_done_up 11 [box _ _ [_]] [_, _] rfl rfl (by simp only [nrmF]; rfl) rfl rfl ?_
  refine JC_seq ?_
  refine JC_seq ?_
  refine JC_region ?_
  refine JL_move rfl ?_
  refine JL_len sl32 rfl ?_
  refine JL_eql rfl rfl ?_
  refine JL_split (fun h7 => ?_) (fun h7 => ?_)
  · refine JL_done_up 11 [box _ _ [_]] [_, _] rfl rfl (by simp only [nrmF]; rfl) rfl rfl ?_
    refine JC_true rfl ?_
    refine JC_seq ?_
    refine JC_region ?_
    refine JL_build (cs := [_]) [] st34 rfl rfl ?_
    refine JL_store (vs := [_]) 0 ty34 rfl rfl rfl (AllOne.cons rfl AllOne.nil) rfl (Nat.le_of_ble_eq_true rfl) ?_
    refine JL_done_up 11 [box _ _ [_]] [_, _] rfl rfl (by simp only [nrmF]; rfl) rfl rfl ?_
    refine JC_ret ?_
    refine JE_then_ret ?_
    have hz := limbs_zero (x := x) (by omega)
    subst hz
    refine JE_nilView ?_
    refine JE_ret (vs := [_]) [vCells none (u32s [])] Tryz.results85 ⟨RV.cell (vs := [_]) 0 ty34 rfl rfl ⟨rfl, trivial⟩, rfl⟩ ?_ ?_
    · exact ⟨none, 0, by rw [limbsOf_zero]; rfl, by rw [limbsOf_zero]; exact Nat.le_refl _, by omega, by rw [limbsOf_zero]⟩
    · exact (all_cons (by repeat (first | with_reducible exact mm0 | refine mmS ?_)) all_nil)
  · refine JL_done_up 11 [box _ _ [_]] [_, _] rfl rfl (by simp only [nrmF]; rfl) rfl rfl ?_
    refine JC_false rfl ?_
    refine JC_skip ?_
    refine JE_then ?_
    refine JC_seq ?_
    refine JC_region ?_
    refine JL_move rfl ?_
    refine JL_build (cs := [_]) [(0, [_])] st34 ⟨⟨rfl, _, rfl, rfl⟩, rfl⟩ rfl ?_
    refine JL_store (vs := [_]) 0 ty34 rfl rfl rfl (AllOne.cons rfl AllOne.nil) rfl (Nat.le_of_ble_eq_true rfl) ?_
    refine JL_done_up 11 [box _ _ [_]] [_, _] rfl rfl (by simp only [nrmF]; rfl) rfl rfl ?_
    refine JC_ret ?_
    refine JE_ret (vs := [_]) [vCells ad4 (u32s (limbsOf (x)))] Tryz.results85 ⟨RV.cell (vs := [_]) 0 ty34 rfl rfl ⟨rfl, trivial⟩, rfl⟩ ?_ ?_
    · exact ⟨ad4, cap4, rfl, hk4, hm4, rfl⟩
    · exact (all_cons (by repeat (first | with_reducible exact mm0 | refine mmS ?_)) all_nil)

theorem compare_con (ad1 : Option Addr) (n1 c1 : Nat) (ad2 : Option Addr) (n2 c2 : Nat) (n m : Nat) (h1 : (limbsOf n).length = n1) (h2 : (limbsOf m).length = n2) (hb : n1 ≤ 1000000000) (hb2 : n2 ≤ 1000000000) :
    ConF Tryz.prog 83 [.slice ad1 n1 c1, .slice ad2 n2 c2] [vCells ad1 (u32s (limbsOf n)), vCells ad2 (u32s (limbsOf m))]
      (fun v φo => v = .int .i64 (cmpN n m) ∧ φo = []) := by
  subst h1 h2
  refine ConF_of Tryz.func83 rfl 41 _ rfl rfl ?_
  intro w0
  refine JC_norm ⟨41, [], [_, _, _, _, _, _, _, _, _, _, _, _, _, _, _, _, _, _, _, _, _, _, _, _, _, _, _, _, _, _, _, _, _, _, _, _, _, _, _, _, _]⟩ [] [_, _] rfl rfl rfl ?_
  refine JC_seq ?_
  refine JC_region ?_
  refine JL_assign rfl ?_
  refine JL_done_up 41 [] [_, _] rfl rfl (by simp only [nrmF]; rfl) rfl rfl ?_
  refine JC_seq ?_
  refine JC_seq ?_
  refine JC_region ?_
  refine JL_move rfl ?_
  refine JL_len sl32 rfl ?_
  refine JL_move rfl ?_
  refine JL_len sl32 rfl ?_
  refine JL_neq rfl rfl ?_
  refine JL_split (fun h10 => ?_) (fun h10 => ?_)
  · refine JL_done_up 41 [] [_, _] rfl rfl (by simp only [nrmF]; rfl) rfl rfl ?_
    refine JC_true rfl ?_
    refine JC_seq ?_
    refine JC_seq ?_
    refine JC_region ?_
    refine JL_move rfl ?_
    refine JL_len sl32 rfl ?_
    refine JL_move rfl ?_
    refine JL_len sl32 rfl ?_
    refine JL_lss rfl rfl ?_
    refine JL_split (fun h15 => ?_) (fun h15 => ?_)
    · refine JL_done_up 41 [] [_, _] rfl rfl (by simp only [nrmF]; rfl) rfl rfl ?_
      refine JC_true rfl ?_
      refine JC_seq ?_
      refine JC_region ?_
      refine JL_assign rfl ?_
      refine JL_done_up 41 [] [_, _] rfl rfl (by simp only [nrmF]; rfl) rfl rfl ?_
      refine JC_ret ?_
      refine JE_then_ret ?_
      refine JE_then_ret ?_
      refine JE_ret (vs := [_]) [] Tryz.results83 ⟨rfl, rfl⟩ ?_ ?_
      · exact ⟨by rw [cmpN_lt (length_limbsOf_lt (by omega))]; rfl, rfl⟩
      · exact all_nil
    · refine JL_done_up 41 [] [_, _] rfl rfl (by simp only [nrmF]; rfl) rfl rfl ?_
      refine JC_false rfl ?_
      refine JC_skip ?_
      refine JE_then ?_
      refine JC_seq ?_
      refine JC_region ?_
      refine JL_assign rfl ?_
      refine JL_done_up 41 [] [_, _] rfl rfl (by simp only [nrmF]; rfl) rfl rfl ?_
      refine JC_ret ?_
      refine JE_then_ret ?_
      refine JE_ret (vs := [_]) [] Tryz.results83 ⟨rfl, rfl⟩ ?_ ?_
      · exact ⟨by rw [cmpN_gt (length_limbsOf_lt (by omega))]; rfl, rfl⟩
      · exact all_nil
  · have hlen : (limbsOf n).length = (limbsOf m).length := by omega
    refine JL_done_up 41 [] [_, _] rfl rfl (by simp only [nrmF]; rfl) rfl rfl ?_
    refine JC_false rfl ?_
    refine JC_skip ?_
    refine JE_then ?_
    refine JC_seq ?_
    refine JC_seq ?_
    refine JC_region ?_
    refine JL_move rfl ?_
    refine JL_len sl32 rfl ?_
    refine JL_sub_to rfl rfl (IntWalk.i64_in _ (by omega)) ?_
    refine JL_assign rfl ?_
    refine JL_done_up 41 [] [_, _] rfl rfl (by simp only [nrmF]; rfl) rfl rfl ?_
    refine JC_block ?_
    refine JC_loopS ((Nat)) (fun (k : Nat) => k ≤ (limbsOf n).length ∧ (limbsOf n).drop k = (limbsOf m).drop k) (fun (k : Nat) => k) (fun u (k : Nat) => [none, none, none, none, some (u 4), some (.int .i64 ((k : Nat) - 1)), none, none, none, none, none, none, none, none, none, none, none, none, none, some (u 19), some (u 20), some (u 21), some (u 22), some (u 23), some (u 24), some (u 25), some (u 26), some (u 27), some (u 28), some (u 29), some (u 30), some (u 31), some (u 32), some (u 33), some (u 34), some (u 35), some (u 36), some (u 37), some (u 38), some (u 39), some (u 40)]) (fun (k : Nat) => []) (fun (k : Nat) => []) ((limbsOf n).length) (by kernel_rfl) ?_ (by kernel_rfl) ?_ ?_
    · exact ⟨Nat.le_refl _, by rw [List.drop_length, List.drop_of_length_le (by omega)]⟩
    · exact subset_nil
    intro u k hC
    obtain ⟨hk, hd⟩ := hC
    refine JC_norm ⟨41, [], [_, _, _, _, _, _, _, _, _, _, _, _, _, _, _, _, _, _, _, _, _, _, _, _, _, _, _, _, _, _, _, _, _, _, _, _, _, _, _, _, _]⟩ [] [_, _] rfl rfl rfl ?_
    refine JC_seq ?_
    refine JC_seq ?_
    refine JC_region ?_
    refine JL_move rfl ?_
    refine JL_geq rfl rfl ?_
    refine JL_split (fun h20 => ?_) (fun h20 => ?_)
    · refine JL_done_up 41 [] [_, _] rfl rfl (by simp only [nrmF]; rfl) rfl rfl ?_
      refine JC_true rfl ?_
      refine JC_skip ?_
      refine JE_then ?_
      refine JC_seq ?_
      refine JC_block ?_
      refine JC_seq ?_
      refine JC_drawT mixed 8 [spV 23 [] _, spV 24 [] _, spV 25 [0, 1] _, spV 26 [2] _, spV 27 [] _, spV 28 [] _, spV 29 [4, 5] _, spV 30 [6] _] ⟨OblS_V (fun vals ex ψ => (by
          refine JL_move rfl ?_
          exact JL_nil (JE_stepV rfl ss0))), OblS_V (fun vals ex ψ => (by
          refine JL_move rfl ?_
          exact JL_nil (JE_stepV rfl ss0))), OblS_V (fun vals ex ψ => (by
          refine JL_normQ _ (_ :: _ :: ψ) rfl rfl ?_
          refine JL_idx (k - 1) sl32 rfl rfl (by omega) (by omega) (Reads.view List.mem_cons_self) (by first | (rw [u32s_length]; omega) | (rw [i64s_length]; omega)) ?_
          exact JL_nil (JE_stepV rfl ss0))), OblS_V (fun vals ex ψ => (by
          refine JL_normQ _ (_ :: _ :: ψ) rfl rfl ?_
          refine JL_loadE ty94 rfl (Reads.view List.mem_cons_self) (u32s_get (by omega)) ?_
          exact JL_nil (JE_stepV rfl ss0))), OblS_V (fun vals ex ψ => (by
          refine JL_move rfl ?_
          exact JL_nil (JE_stepV rfl ss0))), OblS_V (fun vals ex ψ => (by
          refine JL_move rfl ?_
          exact JL_nil (JE_stepV rfl ss0))), OblS_V (fun vals ex ψ => (by
          refine JL_normQ _ (_ :: _ :: ψ) rfl rfl ?_
          refine JL_idx (k - 1) sl32 rfl rfl (by omega) (by omega) (Reads.view (List.mem_cons_of_mem _ List.mem_cons_self)) (by first | (rw [u32s_length]; omega) | (rw [i64s_length]; omega)) ?_
          exact JL_nil (JE_stepV rfl ss0))), OblS_V (fun vals ex ψ => (by
          refine JL_normQ _ (_ :: _ :: ψ) rfl rfl ?_
          refine JL_loadE ty94 rfl (Reads.view (List.mem_cons_of_mem _ List.mem_cons_self)) (u32s_get (by omega)) ?_
          exact JL_nil (JE_stepV rfl ss0))), trivial⟩ (by kernel_rfl) (fun vals bs => ?_)
      refine JL_normL [_] ⟨41, [(23, _), (24, _), (25, _), (26, _), (27, _), (28, _), (29, _), (30, _)], _⟩ [] [_, _] rfl rfl rfl rfl ?_
      refine JL_neq rfl rfl ?_
      refine JL_split (fun h31 => ?_) (fun h31 => ?_)
      · refine JL_done_up 41 [] [_, _] rfl rfl (by simp only [nrmF]; rfl) rfl rfl ?_
        refine JC_true rfl ?_
        refine JC_seq ?_
        refine JC_seq ?_
        refine JC_drawT mixed 8 [spV 32 [] _, spV 33 [] _, spV 34 [0, 1] _, spV 35 [2] _, spV 36 [] _, spV 37 [] _, spV 38 [4, 5] _, spV 39 [6] _] ⟨OblS_V (fun vals ex ψ => (by
            refine JL_move rfl ?_
            exact JL_nil (JE_stepV rfl ss0))), OblS_V (fun vals ex ψ => (by
            refine JL_move rfl ?_
            exact JL_nil (JE_stepV rfl ss0))), OblS_V (fun vals ex ψ => (by
            refine JL_normQ _ (_ :: _ :: ψ) rfl rfl ?_
            refine JL_idx (k - 1) sl32 rfl rfl (by omega) (by omega) (Reads.view List.mem_cons_self) (by first | (rw [u32s_length]; omega) | (rw [i64s_length]; omega)) ?_
            exact JL_nil (JE_stepV rfl ss0))), OblS_V (fun vals ex ψ => (by
            refine JL_normQ _ (_ :: _ :: ψ) rfl rfl ?_
            refine JL_loadE ty94 rfl (Reads.view List.mem_cons_self) (u32s_get (by omega)) ?_
            exact JL_nil (JE_stepV rfl ss0))), OblS_V (fun vals ex ψ => (by
            refine JL_move rfl ?_
            exact JL_nil (JE_stepV rfl ss0))), OblS_V (fun vals ex ψ => (by
            refine JL_move rfl ?_
            exact JL_nil (JE_stepV rfl ss0))), OblS_V (fun vals ex ψ => (by
            refine JL_normQ _ (_ :: _ :: ψ) rfl rfl ?_
            refine JL_idx (k - 1) sl32 rfl rfl (by omega) (by omega) (Reads.view (List.mem_cons_of_mem _ List.mem_cons_self)) (by first | (rw [u32s_length]; omega) | (rw [i64s_length]; omega)) ?_
            exact JL_nil (JE_stepV rfl ss0))), OblS_V (fun vals ex ψ => (by
            refine JL_normQ _ (_ :: _ :: ψ) rfl rfl ?_
            refine JL_loadE ty94 rfl (Reads.view (List.mem_cons_of_mem _ List.mem_cons_self)) (u32s_get (by omega)) ?_
            exact JL_nil (JE_stepV rfl ss0))), trivial⟩ (by kernel_rfl) (fun vals bs => ?_)
        refine JL_normL [_] ⟨41, [(32, _), (33, _), (34, _), (35, _), (36, _), (37, _), (38, _), (39, _)], _⟩ [] [_, _] rfl rfl rfl rfl ?_
        refine JL_lss rfl rfl ?_
        refine JL_split (fun h40 => ?_) (fun h40 => ?_)
        · refine JL_done_up 41 [] [_, _] rfl rfl (by simp only [nrmF]; rfl) rfl rfl ?_
          refine JC_true rfl ?_
          refine JC_seq ?_
          refine JC_region ?_
          refine JL_assign rfl ?_
          refine JL_done_up 41 [] [_, _] rfl rfl (by simp only [nrmF]; rfl) rfl rfl ?_
          refine JC_ret ?_
          refine JE_then_ret ?_
          refine JE_block_ret ?_
          refine JE_then_ret ?_
          refine JE_nextS_ret ?_
          refine JE_block_ret ?_
          refine JE_then_ret ?_
          refine JE_ret (vs := [_]) [] Tryz.results83 ⟨rfl, rfl⟩ ?_ ?_
          · exact ⟨by rw [cmpN_lt (cmp_top hlen (k - 1) (by omega) (by rw [Nat.sub_add_cancel (by omega)]; exact hd) (by omega))]; rfl, rfl⟩
          · exact all_nil
        · refine JL_done_up 41 [] [_, _] rfl rfl (by simp only [nrmF]; rfl) rfl rfl ?_
          refine JC_false rfl ?_
          refine JC_skip ?_
          refine JE_then ?_
          refine JC_seq ?_
          refine JC_region ?_
          refine JL_assign rfl ?_
          refine JL_done_up 41 [] [_, _] rfl rfl (by simp only [nrmF]; rfl) rfl rfl ?_
          refine JC_ret ?_
          refine JE_block_ret ?_
          refine JE_then_ret ?_
          refine JE_nextS_ret ?_
          refine JE_block_ret ?_
          refine JE_then_ret ?_
          refine JE_ret (vs := [_]) [] Tryz.results83 ⟨rfl, rfl⟩ ?_ ?_
          · exact ⟨by rw [cmpN_gt (cmp_top hlen.symm (k - 1) (by omega) (by rw [Nat.sub_add_cancel (by omega)]; exact hd.symm) (by omega))]; rfl, rfl⟩
          · exact all_nil
      · refine JL_done_up 41 [] [_, _] rfl rfl (by simp only [nrmF]; rfl) rfl rfl ?_
        refine JC_false rfl ?_
        refine JC_skip ?_
        refine JE_block_normal ?_
        refine JE_then ?_
        refine JC_region ?_
        refine JL_move rfl ?_
        refine JL_sub_to rfl rfl (IntWalk.i64_in _ (by omega)) ?_
        rw [show ((k : Int) - 1 - 1 : Int) = ((k - 1 : Nat) : Int) - 1 from by omega]
        refine JL_assign rfl ?_
        refine JL_nil_up 41 [] [_, _] rfl rfl (by simp only [nrmF]; rfl) rfl rfl ?_
        refine JE_nextS (k - 1) (by kernel_rfl) ?_ ?_ (by kernel_rfl) ?_
        · exact ⟨by omega, cmp_drop hlen (k - 1) (by omega) (by rw [Nat.sub_add_cancel (by omega)]; exact hd) (by omega)⟩
        · first | omega | (dsimp only; omega)
        · exact subset_app subset_nil ss0
    · refine JL_done_up 41 [] [_, _] rfl rfl (by simp only [nrmF]; rfl) rfl rfl ?_
      refine JC_false rfl ?_
      refine JC_exit ?_
      refine JE_then_exit ?_
      refine JE_nextS_exit ?_
      refine JE_block_exit ?_
      refine JE_then ?_
      refine JC_seq ?_
      refine JC_region ?_
      refine JL_assign rfl ?_
      refine JL_done_up 41 [] [_, _] rfl rfl (by simp only [nrmF]; rfl) rfl rfl ?_
      refine JC_ret ?_
      refine JE_ret (vs := [_]) [] Tryz.results83 ⟨rfl, rfl⟩ ?_ ?_
      · exact ⟨by rw [cmpN_eq (cmp_all (by rw [show (0 : Nat) = k from by omega]; exact hd))]; rfl, rfl⟩
      · exact all_nil

theorem plus_con (ad1 : Option Addr) (n1 c1 : Nat) (ad2 : Option Addr) (n2 c2 : Nat) (n m : Nat) (h1 : (limbsOf n).length = n1) (h2 : (limbsOf m).length = n2) (hb : n1 ≤ 1000000000) (hb2 : n2 ≤ 1000000000) :
    ConF Tryz.prog 90 [.slice ad1 n1 c1, .slice ad2 n2 c2] [vCells ad1 (u32s (limbsOf n)), vCells ad2 (u32s (limbsOf m))]
      (LS (n + m)) := by
  refine ConF_of Tryz.func90 rfl 54 _ rfl rfl ?_
  intro w0
  refine JC_norm ⟨54, [], [_, _, _, _, _, _, _, _, _, _, _, _, _, _, _, _, _, _, _, _, _, _, _, _, _, _, _, _, _, _, _, _, _, _, _, _, _, _, _, _, _, _, _, _, _, _, _, _, _, _, _, _, _, _]⟩ [] [_, _] rfl rfl rfl ?_
  refine JC_seq ?_
  refine JC_region ?_
  refine JL_assign rfl ?_
  refine JL_done_up 54 [] [_, _] rfl rfl (by simp only [nrmF]; rfl) rfl rfl ?_
  refine JC_seq ?_
  refine JC_seq ?_
  refine JC_region ?_
  refine JL_move rfl ?_
  refine JL_len sl32 rfl ?_
  refine JL_move rfl ?_
  refine JL_len sl32 rfl ?_
  refine JL_lss rfl rfl ?_
  refine JL_done_up 54 [] [_, _] rfl rfl (by simp only [nrmF]; rfl) rfl rfl ?_
  refine JC_cutT ((Option Addr) × (Nat) × (Nat) × (Nat) × (Option Addr) × (Nat) × (Nat) × (Nat)) (fun (xa, xn, xc, x, ya, yn, yc, y) => (limbsOf x).length = xn ∧ (limbsOf y).length = yn ∧ yn ≤ xn ∧ xn ≤ 1000000000 ∧ x + y = n + m) (fun u (xa, xn, xc, x, ya, yn, yc, y) => [some (.slice xa xn xc), some (.slice ya yn yc), none, none, none, none, none, none, none, none, none, none, none, none, none, some (u 15), some (u 16), none, none, none, none, none, none, none, none, none, none, none, none, none, none, none, none, none, none, none, none, none, none, none, none, none, none, none, none, none, none, none, none, none, none, none, none, none]) (fun (xa, xn, xc, x, ya, yn, yc, y) => []) (fun (xa, xn, xc, x, ya, yn, yc, y) => [(false, vCells xa (u32s (limbsOf x))), (false, vCells ya (u32s (limbsOf y)))]) ?_ ?_
  · refine JC_cond rfl (fun hb => ?_) (fun hb => ?_)
    · have h14 := of_decide_eq_true hb
      refine JC_region ?_
      refine JL_move rfl ?_
      refine JL_move rfl ?_
      refine JL_assign rfl ?_
      refine JL_assign rfl ?_
      refine JL_nil_up 54 [] [_, _] rfl rfl (by simp only [nrmF]; rfl) rfl rfl ?_
      refine JE_midS (ad2, n2, c2, m, ad1, n1, c1, n) (by kernel_rfl) ?_ (by kernel_rfl) ?_
      · exact ⟨h2, h1, by omega, by omega, by omega⟩
      · exact subset_app (subset_cons (by repeat (first | with_reducible exact mm0 | refine mmS ?_)) (subset_cons (by repeat (first | with_reducible exact mm0 | refine mmS ?_)) subset_nil)) ss0
    · have h14 := of_decide_eq_false hb
      refine JC_skip ?_
      refine JE_midS (ad1, n1, c1, n, ad2, n2, c2, m) (by kernel_rfl) ?_ (by kernel_rfl) ?_
      · exact ⟨h1, h2, by omega, by omega, by omega⟩
      · exact subset_app (subset_cons (by repeat (first | with_reducible exact mm0 | refine mmS ?_)) (subset_cons (by repeat (first | with_reducible exact mm0 | refine mmS ?_)) subset_nil)) ss0
  intro u i hC
  obtain ⟨xa, xn, xc, x, ya, yn, yc, y⟩ := i
  obtain ⟨hx, hy, hyx, hxb, hxy⟩ := hC
  refine JC_norm ⟨54, [], [_, _, _, _, _, _, _, _, _, _, _, _, _, _, _, _, _, _, _, _, _, _, _, _, _, _, _, _, _, _, _, _, _, _, _, _, _, _, _, _, _, _, _, _, _, _, _, _, _, _, _, _, _, _]⟩ [] [_, _, _, _] rfl rfl rfl ?_
  refine JC_seq ?_
  refine JC_region ?_
  refine JL_move rfl ?_
  refine JL_len sl32 rfl ?_
  refine JL_add_to rfl rfl (IntWalk.i64_in _ (by omega)) ?_
  refine JL_make1 0 (xn + 1) sl32 rfl rfl rfl (by omega) (by omega) (by omega) (by omega) (fun g20 => ?_)
  rw [u32s_replicate]
  refine JL_assign rfl ?_
  refine JL_done_up 54 [osl _ _ _ _ _ _] [_, _, _, _] rfl rfl (by simp only [nrmF]; rfl) rfl rfl ?_
  refine JC_seq ?_
  refine JC_region ?_
  refine JL_assign rfl ?_
  refine JL_done_up 54 [osl _ _ _ _ _ _] [_, _, _, _] rfl rfl (by simp only [nrmF]; rfl) rfl rfl ?_
  refine JC_seq ?_
  refine JC_seq ?_
  refine JC_region ?_
  refine JL_move rfl ?_
  refine JL_len sl32 rfl ?_
  refine JL_move rfl ?_
  refine JL_done_up 54 [osl _ _ _ _ _ _] [_, _, _, _] rfl rfl (by simp only [nrmF]; rfl) rfl rfl ?_
  refine JC_block ?_
  refine JC_loopS ((Nat) × (List Nat) × (Nat) × (Option Addr) × (Nat)) (fun (k, out, c, ad, cap) => k ≤ xn ∧ out.length = k ∧ Dig out ∧ c ≤ 1 ∧ val out + 1000000000 ^ k * c = val ((limbsOf x).take k) + val ((limbsOf y).take k) ∧ k ≤ cap ∧ cap ≤ 9223372036854775807) (fun (k, out, c, ad, cap) => xn - k) (fun u (k, out, c, ad, cap) => [none, none, none, none, none, some (.slice ad k cap), some (.int .u32 (c : Nat)), some (u 7), some (u 8), some (u 9), none, none, none, none, none, none, none, none, none, none, none, none, none, some (.int .i64 (k : Nat)), some (u 24), some (u 25), some (u 26), some (u 27), some (u 28), some (u 29), some (u 30), some (u 31), some (u 32), some (u 33), some (u 34), some (u 35), some (u 36), some (u 37), some (u 38), some (u 39), some (u 40), some (u 41), some (u 42), some (u 43), some (u 44), some (u 45), some (u 46), some (u 47), some (u 48), none, none, none, none, none]) (fun (k, out, c, ad, cap) => [some (osl ad k cap 94 1 (u32s out))]) (fun (k, out, c, ad, cap) => []) (0, [], 0, some ⟨g20, 0, none⟩, xn + 1) (by kernel_rfl) ?_ (by kernel_rfl) ?_ ?_
  · exact ⟨Nat.zero_le _, rfl, Dig.nil, by omega, by simp [val], by omega, by omega⟩
  · exact subset_nil
  intro u i hC
  obtain ⟨k, out, c, ad, cap⟩ := i
  obtain ⟨hk, ho, hd, hc, hv, hcap, hm⟩ := hC
  refine JC_norm ⟨54, [], [_, _, _, _, _, _, _, _, _, _, _, _, _, _, _, _, _, _, _, _, _, _, _, _, _, _, _, _, _, _, _, _, _, _, _, _, _, _, _, _, _, _, _, _, _, _, _, _, _, _, _, _, _, _]⟩ [osl _ _ _ _ _ _] [_, _, _, _] rfl rfl rfl ?_
  have hX := (dig_limbsOf x).getD k
  have hY := (dig_limbsOf y).getD k
  refine JC_seq ?_
  refine JC_region ?_
  refine JL_lss rfl rfl ?_
  refine JL_split (fun h24 => ?_) (fun h24 => ?_)
  · refine JL_done_up 54 [osl _ _ _ _ _ _] [_, _, _, _] rfl rfl (by simp only [nrmF]; rfl) rfl rfl ?_
    refine JC_seq ?_
    refine JC_true rfl ?_
    refine JC_skip ?_
    refine JE_then ?_
    refine JC_seq ?_
    refine JC_block ?_
    refine JC_seq ?_
    refine JC_region ?_
    refine JL_move rfl ?_
    refine JL_idx k sl32 rfl rfl rfl (by omega) (by first | exact Reads.view (by repeat (first | with_reducible exact mm0 | refine mmS ?_)) | (exact Reads.own 0 rfl)) (by first | (rw [u32s_length]; omega) | (rw [i64s_length]; omega)) ?_
    refine JL_loadE ty94 rfl (by first | exact Reads.view (by repeat (first | with_reducible exact mm0 | refine mmS ?_)) | (exact Reads.own 0 rfl)) (u32s_get (by omega)) ?_
    refine JL_assign rfl ?_
    refine JL_assign rfl ?_
    refine JL_done_up 54 [osl _ _ _ _ _ _] [_, _, _, _] rfl rfl (by simp only [nrmF]; rfl) rfl rfl ?_
    refine JC_seq ?_
    refine JC_region ?_
    refine JL_move rfl ?_
    refine JL_move rfl ?_
    refine JL_add_to rfl rfl (IntWalk.u32_in _ (by omega)) ?_
    refine JL_assign rfl ?_
    refine JL_done_up 54 [osl _ _ _ _ _ _] [_, _, _, _] rfl rfl (by simp only [nrmF]; rfl) rfl rfl ?_
    refine JC_seq ?_
    refine JC_seq ?_
    refine JC_region ?_
    refine JL_move rfl ?_
    refine JL_move rfl ?_
    refine JL_len sl32 rfl ?_
    refine JL_lss rfl rfl ?_
    refine JL_done_up 54 [osl _ _ _ _ _ _] [_, _, _, _] rfl rfl (by simp only [nrmF]; rfl) rfl rfl ?_
    refine JC_cutT ((Nat)) (fun (t : Nat) => t = (limbsOf x).getD k 0 + c + (limbsOf y).getD k 0) (fun u (t : Nat) => [none, none, none, none, none, none, none, none, none, some (.int .u32 (t : Nat)), none, none, none, none, none, none, none, none, none, none, none, none, none, none, none, none, none, none, none, none, none, none, none, none, none, some (u 35), some (u 36), some (u 37), some (u 38), some (u 39), some (u 40), none, none, none, none, none, none, none, none, none, none, none, none, none]) (fun (t : Nat) => [none]) (fun (t : Nat) => []) ?_ ?_
    · refine JC_cond rfl (fun hb => ?_) (fun hb => ?_)
      · have h34 := of_decide_eq_true hb
        refine JC_region ?_
        refine JL_move rfl ?_
        refine JL_move rfl ?_
        refine JL_move rfl ?_
        refine JL_idx k sl32 rfl rfl rfl (by omega) (by first | exact Reads.view (by repeat (first | with_reducible exact mm0 | refine mmS ?_)) | (exact Reads.own 0 rfl)) (by first | (rw [u32s_length]; omega) | (rw [i64s_length]; omega)) ?_
        refine JL_loadE ty94 rfl (by first | exact Reads.view (by repeat (first | with_reducible exact mm0 | refine mmS ?_)) | (exact Reads.own 0 rfl)) (u32s_get (by omega)) ?_
        refine JL_add_to rfl rfl (IntWalk.u32_in _ (by omega)) ?_
        refine JL_assign rfl ?_
        refine JL_nil_up 54 [osl _ _ _ _ _ _] [_, _, _, _] rfl rfl (by simp only [nrmF]; rfl) rfl rfl ?_
        refine JE_midS ((limbsOf x).getD k 0 + c + (limbsOf y).getD k 0) (by kernel_rfl) ?_ (by kernel_rfl) ?_
        · exact rfl
        · exact subset_app subset_nil ss0
      · have h34 := of_decide_eq_false hb
        refine JC_skip ?_
        refine JE_midS ((limbsOf x).getD k 0 + c) (by kernel_rfl) ?_ (by kernel_rfl) ?_
        · show _ = _ + _ + _; rw [getD_of_ge (limbsOf y) k (by omega)]; omega
        · exact subset_app subset_nil ss0
    intro u t ht
    refine JC_norm ⟨54, [], [_, _, _, _, _, _, _, _, _, _, _, _, _, _, _, _, _, _, _, _, _, _, _, _, _, _, _, _, _, _, _, _, _, _, _, _, _, _, _, _, _, _, _, _, _, _, _, _, _, _, _, _, _, _]⟩ [osl _ _ _ _ _ _] [_, _, _, _] rfl rfl rfl ?_
    refine JC_seq ?_
    refine JC_region ?_
    refine JL_move rfl ?_
    refine JL_quo_to rfl rfl (by omega) (IntWalk.u32_quo _ _ (by omega)) ?_
    refine JL_assign rfl ?_
    refine JL_done_up 54 [osl _ _ _ _ _ _] [_, _, _, _] rfl rfl (by simp only [nrmF]; rfl) rfl rfl ?_
    refine JC_region ?_
    refine JL_move rfl ?_
    refine JL_move rfl ?_
    refine JL_rem_to rfl rfl (by omega) (IntWalk.rem_in _ _ (by omega)) ?_
    refine JL_build1 sl32 rfl rfl (fun g46 => ?_)
    refine JL_appendU (L := _) 0 1 (t % 1000000000) sl32 rfl rfl rfl rfl (by omega) (by omega) (by omega) (fun ad47 cap47 hc47 => ?_)
    refine JL_dropAt 1 ?_
    refine JL_norm _ [osl _ _ _ _ _ _] [_, _, _, _] rfl rfl rfl ?_
    refine JL_assign rfl ?_
    refine JL_nil_up 54 [osl _ _ _ _ _ _] [_, _, _, _] rfl rfl (by simp only [nrmF]; rfl) rfl rfl ?_
    refine JE_block_normal ?_
    refine JE_then ?_
    refine JC_region ?_
    refine JL_add_to rfl rfl (IntWalk.i64_in _ (by omega)) ?_
    refine JL_move rfl ?_
    refine JL_nil_up 54 [osl _ _ _ _ _ _] [_, _, _, _] rfl rfl (by simp only [nrmF]; rfl) rfl rfl ?_
    refine JE_nextS (k + 1, out ++ [t % 1000000000], t / 1000000000, ad47, cap47) (by kernel_rfl) ?_ ?_ (by kernel_rfl) ?_
    · exact ⟨by omega, by rw [len_snoc]; omega, dig_snoc hd (Nat.mod_lt _ (by decide)), by omega, plus_step ho hv ht, by omega, by omega⟩
    · first | omega | (dsimp only; omega)
    · exact subset_app subset_nil ss0
  · refine JL_done_up 54 [osl _ _ _ _ _ _] [_, _, _, _] rfl rfl (by simp only [nrmF]; rfl) rfl rfl ?_
    refine JC_seq ?_
    refine JC_false rfl ?_
    refine JC_exit ?_
    refine JE_then_exit ?_
    refine JE_nextS_exit ?_
    refine JE_block_exit ?_
    refine JE_then ?_
    refine JC_seq ?_
    refine JC_region ?_
    refine JL_move rfl ?_
    refine JL_move rfl ?_
    refine JL_build1 sl32 rfl rfl (fun g51 => ?_)
    refine JL_appendU (L := _) 0 1 c sl32 rfl rfl rfl rfl (by omega) (by omega) (by omega) (fun ad52 cap52 hc52 => ?_)
    refine JL_dropAt 1 ?_
    refine JL_norm _ [osl _ _ _ _ _ _] [_, _, _, _] rfl rfl rfl ?_
    refine JL_give 0 rfl ?_
    refine JL_norm _ [] [_, _, _, _, _] rfl rfl rfl ?_
    refine JL_callA' true (AsksA.cons (holdsA_of_mem (by repeat (first | with_reducible exact mm0 | refine mmS ?_))) AsksA.nil) (trim_con _ _ _ _ _ ⟨(by first | rfl | assumption | (simp only [lenS]; omega)), (dig_snoc hd (by omega)), (by rw [val_snoc, ho, hv, val_take_all (limbsOf x) k (by omega), val_take_all (limbsOf y) k (by omega), val_limbsOf, val_limbsOf, hxy])⟩ (by omega) (by omega)) rfl ca117 ⟨rfl, rfl⟩ ?_
    rintro _ _ ⟨ad53, cap53, rfl, hk53, hm53, rfl⟩
    refine JL_assign rfl ?_
    refine JL_done_up 54 [] [_, _, _, _, _, _] rfl rfl (by simp only [nrmF]; rfl) rfl rfl ?_
    refine JC_ret ?_
    refine JE_ret (vs := [_]) [vCells ad53 (u32s (limbsOf (n + m)))] Tryz.results90 ⟨rfl, rfl⟩ ?_ ?_
    · exact ⟨ad53, cap53, rfl, hk53, hm53, rfl⟩
    · exact (all_cons (by repeat (first | with_reducible exact mm0 | refine mmS ?_)) all_nil)

theorem minus_con (ad1 : Option Addr) (n1 c1 : Nat) (ad2 : Option Addr) (n2 c2 : Nat) (n m : Nat) (h1 : (limbsOf n).length = n1) (h2 : (limbsOf m).length = n2) (hb : n1 ≤ 1000000000) (hb2 : n2 ≤ 1000000000) (z : Nat) (hz : n - m = z) (hle : m ≤ n) :
    ConF Tryz.prog 91 [.slice ad1 n1 c1, .slice ad2 n2 c2] [vCells ad1 (u32s (limbsOf n)), vCells ad2 (u32s (limbsOf m))]
      (LS z) := by
  have _ := hb2
  subst hz
  have hlen := len_le_of_val_le hle
  refine ConF_of Tryz.func91 rfl 47 _ rfl rfl ?_
  intro w0
  refine JC_norm ⟨47, [], [_, _, _, _, _, _, _, _, _, _, _, _, _, _, _, _, _, _, _, _, _, _, _, _, _, _, _, _, _, _, _, _, _, _, _, _, _, _, _, _, _, _, _, _, _, _, _]⟩ [] [_, _] rfl rfl rfl ?_
  refine JC_seq ?_
  refine JC_region ?_
  refine JL_assign rfl ?_
  refine JL_done_up 47 [] [_, _] rfl rfl (by simp only [nrmF]; rfl) rfl rfl ?_
  refine JC_seq ?_
  refine JC_region ?_
  refine JL_move rfl ?_
  refine JL_len sl32 rfl ?_
  refine JL_make1 0 n1 sl32 rfl rfl rfl rfl (by omega) (by omega) (by omega) (fun g12 => ?_)
  rw [u32s_replicate]
  refine JL_assign rfl ?_
  refine JL_done_up 47 [osl _ _ _ _ _ _] [_, _] rfl rfl (by simp only [nrmF]; rfl) rfl rfl ?_
  refine JC_seq ?_
  refine JC_region ?_
  refine JL_assign rfl ?_
  refine JL_done_up 47 [osl _ _ _ _ _ _] [_, _] rfl rfl (by simp only [nrmF]; rfl) rfl rfl ?_
  refine JC_seq ?_
  refine JC_seq ?_
  refine JC_region ?_
  refine JL_move rfl ?_
  refine JL_len sl32 rfl ?_
  refine JL_move rfl ?_
  refine JL_done_up 47 [osl _ _ _ _ _ _] [_, _] rfl rfl (by simp only [nrmF]; rfl) rfl rfl ?_
  refine JC_block ?_
  refine JC_loopS ((Nat) × (List Nat) × (Nat) × (Option Addr) × (Nat)) (fun (k, out, c, ad, cap) => k ≤ n1 ∧ out.length = k ∧ Dig out ∧ c ≤ 1 ∧ val ((limbsOf n).take k) + 1000000000 ^ k * c = val ((limbsOf m).take k) + val out ∧ k ≤ cap ∧ cap ≤ 9223372036854775807) (fun (k, out, c, ad, cap) => n1 - k) (fun u (k, out, c, ad, cap) => [none, none, none, none, none, some (.slice ad k cap), some (.int .i64 (c : Nat)), some (u 7), some (u 8), some (u 9), none, none, none, none, none, some (.int .i64 (k : Nat)), some (u 16), some (u 17), some (u 18), some (u 19), some (u 20), some (u 21), some (u 22), some (u 23), some (u 24), some (u 25), some (u 26), some (u 27), some (u 28), some (u 29), some (u 30), some (u 31), some (u 32), some (u 33), some (u 34), some (u 35), some (u 36), some (u 37), some (u 38), some (u 39), some (u 40), some (u 41), some (u 42), some (u 43), some (u 44), none, none]) (fun (k, out, c, ad, cap) => [some (osl ad k cap 94 1 (u32s out))]) (fun (k, out, c, ad, cap) => []) (0, [], 0, some ⟨g12, 0, none⟩, n1) (by kernel_rfl) ?_ (by kernel_rfl) ?_ ?_
  · exact ⟨Nat.zero_le _, rfl, Dig.nil, by omega, by simp [val], by omega, by omega⟩
  · exact subset_nil
  intro u i hC
  obtain ⟨k, out, c, ad, cap⟩ := i
  obtain ⟨hk, ho, hd, hc, hv, hcap, hm⟩ := hC
  refine JC_norm ⟨47, [], [_, _, _, _, _, _, _, _, _, _, _, _, _, _, _, _, _, _, _, _, _, _, _, _, _, _, _, _, _, _, _, _, _, _, _, _, _, _, _, _, _, _, _, _, _, _, _]⟩ [osl _ _ _ _ _ _] [_, _] rfl rfl rfl ?_
  have hX := (dig_limbsOf n).getD k
  have hY := (dig_limbsOf m).getD k
  refine JC_seq ?_
  refine JC_region ?_
  refine JL_lss rfl rfl ?_
  refine JL_split (fun h16 => ?_) (fun h16 => ?_)
  · refine JL_done_up 47 [osl _ _ _ _ _ _] [_, _] rfl rfl (by simp only [nrmF]; rfl) rfl rfl ?_
    refine JC_seq ?_
    refine JC_true rfl ?_
    refine JC_skip ?_
    refine JE_then ?_
    refine JC_seq ?_
    refine JC_block ?_
    refine JC_seq ?_
    refine JC_region ?_
    refine JL_move rfl ?_
    refine JL_idx k sl32 rfl rfl rfl (by omega) (by first | exact Reads.view (by repeat (first | with_reducible exact mm0 | refine mmS ?_)) | (exact Reads.own 0 rfl)) (by first | (rw [u32s_length]; omega) | (rw [i64s_length]; omega)) ?_
    refine JL_loadE ty94 rfl (by first | exact Reads.view (by repeat (first | with_reducible exact mm0 | refine mmS ?_)) | (exact Reads.own 0 rfl)) (u32s_get (by omega)) ?_
    refine JL_assign rfl ?_
    refine JL_assign rfl ?_
    refine JL_done_up 47 [osl _ _ _ _ _ _] [_, _] rfl rfl (by simp only [nrmF]; rfl) rfl rfl ?_
    refine JC_seq ?_
    refine JC_region ?_
    refine JL_move rfl ?_
    refine JL_convInt us94 it2 rfl (IntWalk.i64_in _ (by omega)) ?_
    refine JL_move rfl ?_
    refine JL_sub_to rfl rfl (IntWalk.i64_in _ (by omega)) ?_
    refine JL_assign rfl ?_
    refine JL_done_up 47 [osl _ _ _ _ _ _] [_, _] rfl rfl (by simp only [nrmF]; rfl) rfl rfl ?_
    refine JC_seq ?_
    refine JC_seq ?_
    refine JC_region ?_
    refine JL_move rfl ?_
    refine JL_move rfl ?_
    refine JL_len sl32 rfl ?_
    refine JL_lss rfl rfl ?_
    refine JL_done_up 47 [osl _ _ _ _ _ _] [_, _] rfl rfl (by simp only [nrmF]; rfl) rfl rfl ?_
    refine JC_cutT ((Int)) (fun (t : Int) => t = ((limbsOf n).getD k 0 : Nat) - (c : Nat) - ((limbsOf m).getD k 0 : Nat)) (fun u (t : Int) => [none, none, none, none, none, none, none, none, none, some (.int .i64 t), none, none, none, none, none, none, none, none, none, none, none, none, none, none, none, none, none, none, some (u 28), some (u 29), some (u 30), some (u 31), some (u 32), some (u 33), some (u 34), none, none, none, none, none, none, none, none, none, none, none, none]) (fun (t : Int) => [none]) (fun (t : Int) => []) ?_ ?_
    · refine JC_cond rfl (fun hb => ?_) (fun hb => ?_)
      · have h27 := of_decide_eq_true hb
        refine JC_region ?_
        refine JL_move rfl ?_
        refine JL_move rfl ?_
        refine JL_move rfl ?_
        refine JL_idx k sl32 rfl rfl rfl (by omega) (by first | exact Reads.view (by repeat (first | with_reducible exact mm0 | refine mmS ?_)) | (exact Reads.own 0 rfl)) (by first | (rw [u32s_length]; omega) | (rw [i64s_length]; omega)) ?_
        refine JL_loadE ty94 rfl (by first | exact Reads.view (by repeat (first | with_reducible exact mm0 | refine mmS ?_)) | (exact Reads.own 0 rfl)) (u32s_get (by omega)) ?_
        refine JL_convInt us94 it2 rfl (IntWalk.i64_in _ (by omega)) ?_
        refine JL_sub_to rfl rfl (IntWalk.i64_in _ (by omega)) ?_
        refine JL_assign rfl ?_
        refine JL_nil_up 47 [osl _ _ _ _ _ _] [_, _] rfl rfl (by simp only [nrmF]; rfl) rfl rfl ?_
        refine JE_midS (((limbsOf n).getD k 0 : Nat) - (c : Nat) - ((limbsOf m).getD k 0 : Nat)) (by kernel_rfl) ?_ (by kernel_rfl) ?_
        · exact rfl
        · exact subset_app subset_nil ss0
      · have h27 := of_decide_eq_false hb
        refine JC_skip ?_
        refine JE_midS (((limbsOf n).getD k 0 : Nat) - (c : Nat)) (by kernel_rfl) ?_ (by kernel_rfl) ?_
        · show _ = _ - _; rw [getD_of_ge (limbsOf m) k (by omega)]; omega
        · exact subset_app subset_nil ss0
    intro u t ht
    refine JC_norm ⟨47, [], [_, _, _, _, _, _, _, _, _, _, _, _, _, _, _, _, _, _, _, _, _, _, _, _, _, _, _, _, _, _, _, _, _, _, _, _, _, _, _, _, _, _, _, _, _, _, _]⟩ [osl _ _ _ _ _ _] [_, _] rfl rfl rfl ?_
    refine JC_seq ?_
    refine JC_region ?_
    refine JL_assign rfl ?_
    refine JL_done_up 47 [osl _ _ _ _ _ _] [_, _] rfl rfl (by simp only [nrmF]; rfl) rfl rfl ?_
    refine JC_seq ?_
    refine JC_seq ?_
    refine JC_region ?_
    refine JL_move rfl ?_
    refine JL_lss rfl rfl ?_
    refine JL_done_up 47 [osl _ _ _ _ _ _] [_, _] rfl rfl (by simp only [nrmF]; rfl) rfl rfl ?_
    refine JC_cutT ((Int) × (Nat)) (fun (d, c2) => 0 ≤ d ∧ d < 1000000000 ∧ c2 ≤ 1 ∧ ((limbsOf n).getD k 0 : Int) + 1000000000 * c2 = (limbsOf m).getD k 0 + c + d) (fun u (d, c2) => [none, none, none, none, none, none, some (.int .i64 (c2 : Nat)), none, none, some (.int .i64 d), none, none, none, none, none, none, none, none, none, none, none, none, none, none, none, none, none, none, none, none, none, none, none, none, none, none, none, some (u 37), some (u 38), none, none, none, none, none, none, none, none]) (fun (d, c2) => [none]) (fun (d, c2) => []) ?_ ?_
    · refine JC_cond rfl (fun hb => ?_) (fun hb => ?_)
      · have h36 := of_decide_eq_true hb
        refine JC_seq ?_
        refine JC_region ?_
        refine JL_move rfl ?_
        refine JL_add_to rfl rfl (IntWalk.i64_in _ (by omega)) ?_
        refine JL_assign rfl ?_
        refine JL_done_up 47 [osl _ _ _ _ _ _] [_, _] rfl rfl (by simp only [nrmF]; rfl) rfl rfl ?_
        refine JC_region ?_
        refine JL_assign rfl ?_
        refine JL_nil_up 47 [osl _ _ _ _ _ _] [_, _] rfl rfl (by simp only [nrmF]; rfl) rfl rfl ?_
        refine JE_midS (t + 1000000000, 1) (by kernel_rfl) ?_ (by kernel_rfl) ?_
        · exact ⟨by omega, by omega, by omega, by omega⟩
        · exact subset_app subset_nil ss0
      · have h36 := of_decide_eq_false hb
        refine JC_skip ?_
        refine JE_midS (t, 0) (by kernel_rfl) ?_ (by kernel_rfl) ?_
        · exact ⟨by omega, by omega, by omega, by omega⟩
        · exact subset_app subset_nil ss0
    intro u i hC
    obtain ⟨d, c2⟩ := i
    obtain ⟨hd0, hd1, hc2, hdd⟩ := hC
    refine JC_norm ⟨47, [], [_, _, _, _, _, _, _, _, _, _, _, _, _, _, _, _, _, _, _, _, _, _, _, _, _, _, _, _, _, _, _, _, _, _, _, _, _, _, _, _, _, _, _, _, _, _, _]⟩ [osl _ _ _ _ _ _] [_, _] rfl rfl rfl ?_
    refine JC_region ?_
    refine JL_move rfl ?_
    refine JL_move rfl ?_
    refine JL_convInt us2 it94 rfl (IntWalk.u32_in _ (by omega)) ?_
    refine JL_build1 sl32 rfl rfl (fun g42 => ?_)
    refine JL_appendU (L := _) 0 1 d.toNat sl32 rfl rfl rfl rfl (by omega) (by omega) (by omega) (fun ad43 cap43 hc43 => ?_)
    refine JL_dropAt 1 ?_
    refine JL_norm _ [osl _ _ _ _ _ _] [_, _] rfl rfl rfl ?_
    refine JL_assign rfl ?_
    refine JL_nil_up 47 [osl _ _ _ _ _ _] [_, _] rfl rfl (by simp only [nrmF]; rfl) rfl rfl ?_
    refine JE_block_normal ?_
    refine JE_then ?_
    refine JC_region ?_
    refine JL_add_to rfl rfl (IntWalk.i64_in _ (by omega)) ?_
    refine JL_move rfl ?_
    refine JL_nil_up 47 [osl _ _ _ _ _ _] [_, _] rfl rfl (by simp only [nrmF]; rfl) rfl rfl ?_
    refine JE_nextS (k + 1, out ++ [d.toNat], c2, ad43, cap43) (by kernel_rfl) ?_ ?_ (by kernel_rfl) ?_
    · exact ⟨by omega, by rw [len_snoc]; omega, dig_snoc hd (by omega), by omega, minus_step ho hv (by omega), by omega, by omega⟩
    · first | omega | (dsimp only; omega)
    · exact subset_app subset_nil ss0
  · refine JL_done_up 47 [osl _ _ _ _ _ _] [_, _] rfl rfl (by simp only [nrmF]; rfl) rfl rfl ?_
    refine JC_seq ?_
    refine JC_false rfl ?_
    refine JC_exit ?_
    refine JE_then_exit ?_
    refine JE_nextS_exit ?_
    refine JE_block_exit ?_
    refine JE_then ?_
    refine JC_seq ?_
    refine JC_region ?_
    refine JL_move rfl ?_
    refine JL_give 0 rfl ?_
    refine JL_norm _ [] [_, _, _] rfl rfl rfl ?_
    refine JL_callA' true (AsksA.cons (holdsA_of_mem (by repeat (first | with_reducible exact mm0 | refine mmS ?_))) AsksA.nil) (trim_con _ _ _ _ _ ⟨(by first | rfl | assumption | (simp only [lenS]; omega)), hd, (by rw [minus_val (A := limbsOf n) (C := limbsOf m) ho hd (by omega) (by rw [val_limbsOf, val_limbsOf]; exact hle) (by omega) hv, val_limbsOf, val_limbsOf])⟩ (by omega) (by omega)) rfl ca117 ⟨rfl, rfl⟩ ?_
    rintro _ _ ⟨ad46, cap46, rfl, hk46, hm46, rfl⟩
    refine JL_assign rfl ?_
    refine JL_done_up 47 [] [_, _, _, _] rfl rfl (by simp only [nrmF]; rfl) rfl rfl ?_
    refine JC_ret ?_
    refine JE_ret (vs := [_]) [vCells ad46 (u32s (limbsOf (n - m)))] Tryz.results91 ⟨rfl, rfl⟩ ?_ ?_
    · exact ⟨ad46, cap46, rfl, hk46, hm46, rfl⟩
    · exact (all_cons (by repeat (first | with_reducible exact mm0 | refine mmS ?_)) all_nil)

theorem times_con (ad1 : Option Addr) (n1 c1 : Nat) (ad2 : Option Addr) (n2 c2 : Nat) (A C : List Nat) (x y : Nat) (z : Nat) (hz : x * y = z) (gA : DIn n1 A x) (gC : DIn n2 C y) (hb : n1 ≤ 1000000000) (hb2 : n2 ≤ 1000000000) :
    ConF Tryz.prog 86 [.slice ad1 n1 c1, .slice ad2 n2 c2] [vCells ad1 (u32s A), vCells ad2 (u32s C)]
      (LS z) := by
  subst hz
  obtain ⟨rfl, dA, hxA⟩ := gA
  obtain ⟨rfl, dC, hyC⟩ := gC
  refine ConF_of Tryz.func86 rfl 68 _ rfl rfl ?_
  intro w0
  refine JC_norm ⟨68, [], [_, _, _, _, _, _, _, _, _, _, _, _, _, _, _, _, _, _, _, _, _, _, _, _, _, _, _, _, _, _, _, _, _, _, _, _, _, _, _, _, _, _, _, _, _, _, _, _, _, _, _, _, _, _, _, _, _, _, _, _, _, _, _, _, _, _, _, _]⟩ [] [_, _] rfl rfl rfl ?_
  refine JC_seq ?_
  refine JC_region ?_
  refine JL_assign rfl ?_
  refine JL_done_up 68 [] [_, _] rfl rfl (by simp only [nrmF]; rfl) rfl rfl ?_
  refine JC_seq ?_
  refine JC_region ?_
  refine JL_move rfl ?_
  refine JL_len sl32 rfl ?_
  refine JL_move rfl ?_
  refine JL_len sl32 rfl ?_
  refine JL_add_to rfl rfl (IntWalk.i64_in _ (by omega)) ?_
  refine JL_make1 (A.length + C.length) (A.length + C.length) sl32 rfl rfl (by omega) (by omega) (by omega) (by omega) (by omega) (fun g16 => ?_)
  rw [u32s_replicate]
  refine JL_assign rfl ?_
  refine JL_done_up 68 [osl _ _ _ _ _ _] [_, _] rfl rfl (by simp only [nrmF]; rfl) rfl rfl ?_
  refine JC_seq ?_
  refine JC_seq ?_
  refine JC_region ?_
  refine JL_move rfl ?_
  refine JL_len sl32 rfl ?_
  refine JL_move rfl ?_
  refine JL_done_up 68 [osl _ _ _ _ _ _] [_, _] rfl rfl (by simp only [nrmF]; rfl) rfl rfl ?_
  refine JC_block ?_
  refine JC_loopS ((Nat) × (List Nat)) (fun (i, out) => i ≤ A.length ∧ out.length = A.length + C.length ∧ Dig out ∧ val out = val (A.take i) * val C ∧ ∀ l, i + C.length ≤ l → out.getD l 0 = 0) (fun (i, out) => A.length - i) (fun u (i, out) => [none, none, none, none, none, none, some (u 6), some (u 7), some (u 8), some (u 9), some (u 10), none, none, none, none, none, none, none, none, some (.int .i64 (i : Nat)), some (u 20), some (u 21), some (u 22), some (u 23), some (u 24), some (u 25), some (u 26), some (u 27), some (u 28), some (u 29), some (u 30), some (u 31), some (u 32), some (u 33), some (u 34), some (u 35), some (u 36), some (u 37), some (u 38), some (u 39), some (u 40), some (u 41), some (u 42), some (u 43), some (u 44), some (u 45), some (u 46), some (u 47), some (u 48), some (u 49), some (u 50), some (u 51), some (u 52), some (u 53), some (u 54), some (u 55), some (u 56), some (u 57), some (u 58), some (u 59), some (u 60), some (u 61), some (u 62), some (u 63), some (u 64), some (u 65), none, none]) (fun (i, out) => [some (osl (some ⟨g16, 0, none⟩) (A.length + C.length) (A.length + C.length) 94 1 (u32s out))]) (fun (i, out) => []) (0, List.replicate (A.length + C.length) 0) (by kernel_rfl) ?_ (by kernel_rfl) ?_ ?_
  · exact ⟨Nat.zero_le _, List.length_replicate, Dig.replicate _, by rw [val_replicate]; simp [val], fun l _ => getD_replicate _ l⟩
  · exact subset_nil
  intro u i hC
  obtain ⟨i, out⟩ := i
  obtain ⟨hi, ho, hd, hv, hz⟩ := hC
  refine JC_norm ⟨68, [], [_, _, _, _, _, _, _, _, _, _, _, _, _, _, _, _, _, _, _, _, _, _, _, _, _, _, _, _, _, _, _, _, _, _, _, _, _, _, _, _, _, _, _, _, _, _, _, _, _, _, _, _, _, _, _, _, _, _, _, _, _, _, _, _, _, _, _, _]⟩ [osl _ _ _ _ _ _] [_, _] rfl rfl rfl ?_
  have hX := dA.getD i
  refine JC_seq ?_
  refine JC_region ?_
  refine JL_lss rfl rfl ?_
  refine JL_split (fun h20 => ?_) (fun h20 => ?_)
  · refine JL_done_up 68 [osl _ _ _ _ _ _] [_, _] rfl rfl (by simp only [nrmF]; rfl) rfl rfl ?_
    refine JC_seq ?_
    refine JC_true rfl ?_
    refine JC_skip ?_
    refine JE_then ?_
    refine JC_seq ?_
    refine JC_block ?_
    refine JC_seq ?_
    refine JC_region ?_
    refine JL_move rfl ?_
    refine JL_idx i sl32 rfl rfl rfl (by omega) (Reads.view List.mem_cons_self) (by first | (rw [u32s_length]; omega) | (rw [i64s_length]; omega)) ?_
    refine JL_loadE ty94 rfl (Reads.view List.mem_cons_self) (u32s_get (by omega)) ?_
    refine JL_assign rfl ?_
    refine JL_assign rfl ?_
    refine JL_done_up 68 [osl _ _ _ _ _ _] [_, _] rfl rfl (by simp only [nrmF]; rfl) rfl rfl ?_
    refine JC_seq ?_
    refine JC_region ?_
    refine JL_assign rfl ?_
    refine JL_done_up 68 [osl _ _ _ _ _ _] [_, _] rfl rfl (by simp only [nrmF]; rfl) rfl rfl ?_
    refine JC_seq ?_
    refine JC_seq ?_
    refine JC_region ?_
    refine JL_move rfl ?_
    refine JL_len sl32 rfl ?_
    refine JL_move rfl ?_
    refine JL_done_up 68 [osl _ _ _ _ _ _] [_, _] rfl rfl (by simp only [nrmF]; rfl) rfl rfl ?_
    refine JC_block ?_
    refine JC_loopS ((Nat) × (List Nat) × (Nat)) (fun (j, o2, c) => j ≤ C.length ∧ o2.length = A.length + C.length ∧ Dig o2 ∧ c < 1000000000 ∧ val o2 + 1000000000 ^ (i + j) * c = val (A.take i) * val C + 1000000000 ^ i * (A.getD i 0 * val (C.take j)) ∧ ∀ l, i + C.length ≤ l → o2.getD l 0 = 0) (fun (j, o2, c) => C.length - j) (fun u (j, o2, c) => [none, none, none, none, none, none, none, none, some (.int .u64 (c : Nat)), some (u 9), some (u 10), none, none, none, none, none, none, none, none, none, none, none, none, none, none, none, some (.int .i64 (j : Nat)), some (u 27), some (u 28), some (u 29), some (u 30), some (u 31), some (u 32), some (u 33), some (u 34), some (u 35), some (u 36), some (u 37), some (u 38), some (u 39), some (u 40), some (u 41), some (u 42), some (u 43), some (u 44), some (u 45), some (u 46), some (u 47), some (u 48), some (u 49), some (u 50), some (u 51), some (u 52), some (u 53), some (u 54), some (u 55), some (u 56), none, none, none, none, none, none, none, none, none, none, none]) (fun (j, o2, c) => [some (osl (some ⟨g16, 0, none⟩) (A.length + C.length) (A.length + C.length) 94 1 (u32s o2))]) (fun (j, o2, c) => []) (0, out, 0) (by kernel_rfl) ?_ (by kernel_rfl) ?_ ?_
    · exact ⟨Nat.zero_le _, ho, hd, by omega, by rw [hv]; simp [val], hz⟩
    · exact subset_nil
    intro u i hC
    obtain ⟨j, o2, c⟩ := i
    obtain ⟨hj, ho2, hd2, hc, hv2, hz2⟩ := hC
    refine JC_norm ⟨68, [], [_, _, _, _, _, _, _, _, _, _, _, _, _, _, _, _, _, _, _, _, _, _, _, _, _, _, _, _, _, _, _, _, _, _, _, _, _, _, _, _, _, _, _, _, _, _, _, _, _, _, _, _, _, _, _, _, _, _, _, _, _, _, _, _, _, _, _, _]⟩ [osl _ _ _ _ _ _] [_, _] rfl rfl rfl ?_
    have hY := dC.getD j
    have hO := hd2.getD (i + j)
    have hxy : A.getD i 0 * C.getD j 0 ≤ 999999999 * 999999999 := Nat.mul_le_mul (by omega) (by omega)
    have hct := times_carry hX hY hO hc
    refine JC_seq ?_
    refine JC_region ?_
    refine JL_lss rfl rfl ?_
    refine JL_split (fun h27 => ?_) (fun h27 => ?_)
    · refine JL_done_up 68 [osl _ _ _ _ _ _] [_, _] rfl rfl (by simp only [nrmF]; rfl) rfl rfl ?_
      refine JC_seq ?_
      refine JC_true rfl ?_
      refine JC_skip ?_
      refine JE_then ?_
      refine JC_seq ?_
      refine JC_block ?_
      refine JC_seq ?_
      refine JC_region ?_
      refine JL_move rfl ?_
      refine JL_idx j sl32 rfl rfl rfl (by omega) (Reads.view (List.mem_cons_of_mem _ List.mem_cons_self)) (by first | (rw [u32s_length]; omega) | (rw [i64s_length]; omega)) ?_
      refine JL_loadE ty94 rfl (Reads.view (List.mem_cons_of_mem _ List.mem_cons_self)) (u32s_get (by omega)) ?_
      refine JL_assign rfl ?_
      refine JL_assign rfl ?_
      refine JL_done_up 68 [osl _ _ _ _ _ _] [_, _] rfl rfl (by simp only [nrmF]; rfl) rfl rfl ?_
      refine JC_seq ?_
      refine JC_region ?_
      refine JL_move rfl ?_
      refine JL_move rfl ?_
      refine JL_convInt us94 it110 rfl (IntWalk.u64_in _ (by omega)) ?_
      refine JL_move rfl ?_
      refine JL_convInt us94 it110 rfl (IntWalk.u64_in _ (by omega)) ?_
      refine JL_mul_to rfl rfl (IntWalk.u64_in _ (by rw [← Int.natCast_mul]; omega)) ?_
      rw [show (((A.getD i 0 : Nat) : Int) * ((C.getD j 0 : Nat) : Int) : Int) = ((A.getD i 0 * C.getD j 0 : Nat) : Int) from (Int.natCast_mul _ _).symm]
      refine JL_move rfl ?_
      refine JL_move rfl ?_
      refine JL_move rfl ?_
      refine JL_add_to rfl rfl (IntWalk.i64_in _ (by omega)) ?_
      refine JL_idx (i + j) sl32 rfl rfl rfl (by omega) (Reads.own 0 rfl) (by first | (rw [u32s_length]; omega) | (rw [i64s_length]; omega)) ?_
      refine JL_loadE ty94 rfl (Reads.own 0 rfl) (u32s_get (by omega)) ?_
      refine JL_convInt us94 it110 rfl (IntWalk.u64_in _ (by omega)) ?_
      refine JL_add_to rfl rfl (IntWalk.u64_in _ (by omega)) ?_
      refine JL_add_to rfl rfl (IntWalk.u64_in _ (by omega)) ?_
      refine JL_assign rfl ?_
      refine JL_done_up 68 [osl _ _ _ _ _ _] [_, _] rfl rfl (by simp only [nrmF]; rfl) rfl rfl ?_
      refine JC_seq ?_
      refine JC_region ?_
      refine JL_move rfl ?_
      refine JL_move rfl ?_
      refine JL_move rfl ?_
      refine JL_add_to rfl rfl (IntWalk.i64_in _ (by omega)) ?_
      refine JL_move rfl ?_
      refine JL_rem_to rfl rfl (by omega) (IntWalk.rem_in _ _ (by omega)) ?_
      refine JL_convInt us110 it94 rfl (IntWalk.u32_in _ (by omega)) ?_
      refine JL_idx (i + j) sl32 rfl rfl rfl (by omega) (Reads.own 0 rfl) (by first | (rw [u32s_length]; omega) | (rw [i64s_length]; omega)) ?_
      refine JL_storeU 0 ((c + (A.getD i 0 * C.getD j 0 + o2.getD (i + j) 0)) % 1000000000) ty94 rfl rfl rfl (by omega) (by omega) ?_
      refine JL_done_up 68 [osl _ _ _ _ _ _] [_, _] rfl rfl (by simp only [nrmF]; rfl) rfl rfl ?_
      refine JC_region ?_
      refine JL_move rfl ?_
      refine JL_quo_to rfl rfl (by omega) (IntWalk.u64_quo _ _ (by omega)) ?_
      refine JL_assign rfl ?_
      refine JL_nil_up 68 [osl _ _ _ _ _ _] [_, _] rfl rfl (by simp only [nrmF]; rfl) rfl rfl ?_
      refine JE_block_normal ?_
      refine JE_then ?_
      refine JC_region ?_
      refine JL_add_to rfl rfl (IntWalk.i64_in _ (by omega)) ?_
      refine JL_move rfl ?_
      refine JL_nil_up 68 [osl _ _ _ _ _ _] [_, _] rfl rfl (by simp only [nrmF]; rfl) rfl rfl ?_
      refine JE_nextS (j + 1, o2.set (i + j) ((c + (A.getD i 0 * C.getD j 0 + o2.getD (i + j) 0)) % 1000000000), (c + (A.getD i 0 * C.getD j 0 + o2.getD (i + j) 0)) / 1000000000) (by kernel_rfl) ?_ ?_ (by kernel_rfl) ?_
      · exact ⟨by omega, by rw [List.length_set]; omega, hd2.set _ _ (Nat.mod_lt _ (by decide)), Nat.div_lt_of_lt_mul (by omega), times_step (by omega) hv2 (by omega) rfl, fun l hl => by rw [Nat9.getD_set_ne o2 (i + j) l _ (by omega)]; exact hz2 l hl⟩
      · first | omega | (dsimp only; omega)
      · exact subset_app subset_nil ss0
    · refine JL_done_up 68 [osl _ _ _ _ _ _] [_, _] rfl rfl (by simp only [nrmF]; rfl) rfl rfl ?_
      refine JC_seq ?_
      refine JC_false rfl ?_
      refine JC_exit ?_
      refine JE_then_exit ?_
      refine JE_nextS_exit ?_
      refine JE_block_exit ?_
      refine JE_then ?_
      refine JC_region ?_
      refine JL_move rfl ?_
      refine JL_move rfl ?_
      refine JL_move rfl ?_
      refine JL_len sl32 rfl ?_
      refine JL_add_to rfl rfl (IntWalk.i64_in _ (by omega)) ?_
      refine JL_move rfl ?_
      refine JL_convInt us110 it94 rfl (IntWalk.u32_in _ (by omega)) ?_
      refine JL_idx (i + C.length) sl32 rfl rfl rfl (by omega) (Reads.own 0 rfl) (by first | (rw [u32s_length]; omega) | (rw [i64s_length]; omega)) ?_
      refine JL_storeU 0 c ty94 rfl rfl rfl (by omega) (by omega) ?_
      refine JL_nil_up 68 [osl _ _ _ _ _ _] [_, _] rfl rfl (by simp only [nrmF]; rfl) rfl rfl ?_
      refine JE_block_normal ?_
      refine JE_then ?_
      refine JC_region ?_
      refine JL_add_to rfl rfl (IntWalk.i64_in _ (by omega)) ?_
      refine JL_move rfl ?_
      refine JL_nil_up 68 [osl _ _ _ _ _ _] [_, _] rfl rfl (by simp only [nrmF]; rfl) rfl rfl ?_
      refine JE_nextS (i + 1, o2.set (i + C.length) c) (by kernel_rfl) ?_ ?_ (by kernel_rfl) ?_
      · obtain rfl : j = C.length := by omega
        exact ⟨by omega, by rw [List.length_set]; omega, hd2.set _ _ hc, times_outer (by omega) rfl hv2 (hz2 _ (by omega)) rfl, fun l hl => by rw [Nat9.getD_set_ne o2 (i + C.length) l c (by omega)]; exact hz2 l (by omega)⟩
      · first | omega | (dsimp only; omega)
      · exact subset_app subset_nil ss0
  · refine JL_done_up 68 [osl _ _ _ _ _ _] [_, _] rfl rfl (by simp only [nrmF]; rfl) rfl rfl ?_
    refine JC_seq ?_
    refine JC_false rfl ?_
    refine JC_exit ?_
    refine JE_then_exit ?_
    refine JE_nextS_exit ?_
    refine JE_block_exit ?_
    refine JE_then ?_
    refine JC_seq ?_
    refine JC_region ?_
    refine JL_move rfl ?_
    refine JL_give 0 rfl ?_
    refine JL_norm _ [] [_, _, _] rfl rfl rfl ?_
    refine JL_callA' true (AsksA.cons (holdsA_of_mem (by repeat (first | with_reducible exact mm0 | refine mmS ?_))) AsksA.nil) (trim_con _ _ _ _ _ ⟨(by first | rfl | assumption | (simp only [lenS]; omega)), hd, (by rw [hv, List.take_of_length_le (by omega), hxA, hyC])⟩ (by omega) (by omega)) rfl ca117 ⟨rfl, rfl⟩ ?_
    rintro _ _ ⟨ad67, cap67, rfl, hk67, hm67, rfl⟩
    refine JL_assign rfl ?_
    refine JL_done_up 68 [] [_, _, _, _] rfl rfl (by simp only [nrmF]; rfl) rfl rfl ?_
    refine JC_ret ?_
    refine JE_ret (vs := [_]) [vCells ad67 (u32s (limbsOf (x * y)))] Tryz.results86 ⟨rfl, rfl⟩ ?_ ?_
    · exact ⟨ad67, cap67, rfl, hk67, hm67, rfl⟩
    · exact (all_cons (by repeat (first | with_reducible exact mm0 | refine mmS ?_)) all_nil)

theorem short_con (ad1 : Option Addr) (n1 c1 : Nat) (A : List Nat) (x d : Nat) (gA : DIn n1 A x) (hd0 : 0 < d) (hd9 : d ≤ 1000000000) (hb : n1 ≤ 1000000000) :
    ConF Tryz.prog 135 [.slice ad1 n1 c1, .int .u32 (d : Nat)] [vCells ad1 (u32s A)]
      (LSr (x / d) (x % d)) := by
  obtain ⟨rfl, dA, hxA⟩ := gA
  refine ConF_of Tryz.func135 rfl 43 _ rfl rfl ?_
  intro w0
  refine JC_norm ⟨43, [], [_, _, _, _, _, _, _, _, _, _, _, _, _, _, _, _, _, _, _, _, _, _, _, _, _, _, _, _, _, _, _, _, _, _, _, _, _, _, _, _, _, _, _]⟩ [] [_] rfl rfl rfl ?_
  refine JC_seq ?_
  refine JC_region ?_
  refine JL_assign rfl ?_
  refine JL_assign rfl ?_
  refine JL_done_up 43 [] [_] rfl rfl (by simp only [nrmF]; rfl) rfl rfl ?_
  refine JC_seq ?_
  refine JC_region ?_
  refine JL_move rfl ?_
  refine JL_len sl32 rfl ?_
  refine JL_make1 A.length A.length sl32 rfl rfl rfl rfl (by omega) (by omega) (by omega) (fun g11 => ?_)
  rw [u32s_replicate]
  refine JL_assign rfl ?_
  refine JL_done_up 43 [osl _ _ _ _ _ _] [_] rfl rfl (by simp only [nrmF]; rfl) rfl rfl ?_
  refine JC_seq ?_
  refine JC_region ?_
  refine JL_assign rfl ?_
  refine JL_done_up 43 [osl _ _ _ _ _ _] [_] rfl rfl (by simp only [nrmF]; rfl) rfl rfl ?_
  refine JC_seq ?_
  refine JC_seq ?_
  refine JC_region ?_
  refine JL_move rfl ?_
  refine JL_len sl32 rfl ?_
  refine JL_sub_to rfl rfl (IntWalk.i64_in _ (by omega)) ?_
  refine JL_assign rfl ?_
  refine JL_done_up 43 [osl _ _ _ _ _ _] [_] rfl rfl (by simp only [nrmF]; rfl) rfl rfl ?_
  refine JC_block ?_
  refine JC_loopS ((Nat) × (List Nat) × (Nat)) (fun (k, out, r) => k ≤ A.length ∧ out.length = A.length ∧ Dig out ∧ r < d ∧ val (A.drop k) = d * val (out.drop k) + r) (fun (k, out, r) => k) (fun u (k, out, r) => [none, none, none, none, none, none, none, some (.int .u64 (r : Nat)), some (.int .i64 ((k : Nat) - 1)), none, none, none, none, none, none, some (u 15), some (u 16), some (u 17), some (u 18), some (u 19), some (u 20), some (u 21), some (u 22), some (u 23), some (u 24), some (u 25), some (u 26), some (u 27), some (u 28), some (u 29), some (u 30), some (u 31), some (u 32), some (u 33), some (u 34), some (u 35), some (u 36), some (u 37), some (u 38), none, none, none, none]) (fun (k, out, r) => [some (osl (some ⟨g11, 0, none⟩) A.length A.length 94 1 (u32s out))]) (fun (k, out, r) => []) (A.length, List.replicate A.length 0, 0) (by kernel_rfl) ?_ (by kernel_rfl) ?_ ?_
  · exact ⟨Nat.le_refl _, List.length_replicate, Dig.replicate _, hd0, by rw [List.drop_length, List.drop_of_length_le (by simp)]; simp [val]⟩
  · exact subset_nil
  intro u i hC
  obtain ⟨k, out, r⟩ := i
  obtain ⟨hk, ho, hd, hr, hv⟩ := hC
  refine JC_norm ⟨43, [], [_, _, _, _, _, _, _, _, _, _, _, _, _, _, _, _, _, _, _, _, _, _, _, _, _, _, _, _, _, _, _, _, _, _, _, _, _, _, _, _, _, _, _]⟩ [osl _ _ _ _ _ _] [_] rfl rfl rfl ?_
  have hX := dA.getD (k - 1)
  refine JC_seq ?_
  refine JC_seq ?_
  refine JC_region ?_
  refine JL_move rfl ?_
  refine JL_geq rfl rfl ?_
  refine JL_split (fun h16 => ?_) (fun h16 => ?_)
  · refine JL_done_up 43 [osl _ _ _ _ _ _] [_] rfl rfl (by simp only [nrmF]; rfl) rfl rfl ?_
    refine JC_true rfl ?_
    refine JC_skip ?_
    refine JE_then ?_
    refine JC_seq ?_
    refine JC_block ?_
    refine JC_seq ?_
    refine JC_region ?_
    refine JL_move rfl ?_
    refine JL_mul_to rfl rfl (IntWalk.u64_in _ (by omega)) ?_
    refine JL_move rfl ?_
    refine JL_move rfl ?_
    have hq := short_lt hr hX
    refine JL_idx (k - 1) sl32 rfl rfl (by omega) (by omega) (Reads.view List.mem_cons_self) (by first | (rw [u32s_length]; omega) | (rw [i64s_length]; omega)) ?_
    refine JL_loadE ty94 rfl (Reads.view List.mem_cons_self) (u32s_get (by omega)) ?_
    refine JL_convInt us94 it110 rfl (IntWalk.u64_in _ (by omega)) ?_
    refine JL_add_to rfl rfl (IntWalk.u64_in _ (by omega)) ?_
    rw [show (((r : Nat) : Int) * 1000000000 + ((A.getD (k - 1) 0 : Nat) : Int) : Int) = ((r * 1000000000 + A.getD (k - 1) 0 : Nat) : Int) from by omega]
    refine JL_assign rfl ?_
    refine JL_done_up 43 [osl _ _ _ _ _ _] [_] rfl rfl (by simp only [nrmF]; rfl) rfl rfl ?_
    refine JC_seq ?_
    refine JC_region ?_
    refine JL_move rfl ?_
    refine JL_move rfl ?_
    refine JL_move rfl ?_
    refine JL_move rfl ?_
    refine JL_convInt us94 it110 rfl (IntWalk.u64_in _ (by omega)) ?_
    refine JL_quo_to rfl rfl (by omega) (quo_nat_u64 _ _ (by omega)) ?_
    refine JL_convInt us110 it94 rfl (u32_nat _ (Nat.lt_of_lt_of_le hq (by decide))) ?_
    refine JL_idx (k - 1) sl32 rfl rfl (by omega) (by omega) (Reads.own 0 rfl) (by first | (rw [u32s_length]; omega) | (rw [i64s_length]; omega)) ?_
    refine JL_storeU 0 ((r * 1000000000 + A.getD (k - 1) 0) / d) ty94 rfl rfl rfl (by omega) (by omega) ?_
    refine JL_done_up 43 [osl _ _ _ _ _ _] [_] rfl rfl (by simp only [nrmF]; rfl) rfl rfl ?_
    refine JC_region ?_
    refine JL_move rfl ?_
    refine JL_move rfl ?_
    refine JL_convInt us94 it110 rfl (IntWalk.u64_in _ (by omega)) ?_
    refine JL_rem_to rfl rfl (by omega) (rem_nat _ _) ?_
    refine JL_assign rfl ?_
    refine JL_nil_up 43 [osl _ _ _ _ _ _] [_] rfl rfl (by simp only [nrmF]; rfl) rfl rfl ?_
    refine JE_block_normal ?_
    refine JE_then ?_
    refine JC_region ?_
    refine JL_move rfl ?_
    refine JL_sub_to rfl rfl (IntWalk.i64_in _ (by omega)) ?_
    rw [show ((k : Int) - 1 - 1 : Int) = ((k - 1 : Nat) : Int) - 1 from by omega]
    refine JL_assign rfl ?_
    refine JL_nil_up 43 [osl _ _ _ _ _ _] [_] rfl rfl (by simp only [nrmF]; rfl) rfl rfl ?_
    refine JE_nextS (k - 1, out.set (k - 1) ((r * 1000000000 + A.getD (k - 1) 0) / d), (r * 1000000000 + A.getD (k - 1) 0) % d) (by kernel_rfl) ?_ ?_ (by kernel_rfl) ?_
    · exact ⟨by omega, by rw [List.length_set]; omega, hd.set _ _ hq, Nat.mod_lt _ hd0, short_step (by omega) ho (by rw [Nat.sub_add_cancel (by omega)]; exact hv) hd0 rfl⟩
    · first | omega | (dsimp only; omega)
    · exact subset_app subset_nil ss0
  · refine JL_done_up 43 [osl _ _ _ _ _ _] [_] rfl rfl (by simp only [nrmF]; rfl) rfl rfl ?_
    refine JC_false rfl ?_
    refine JC_exit ?_
    refine JE_then_exit ?_
    refine JE_nextS_exit ?_
    refine JE_block_exit ?_
    refine JE_then ?_
    refine JC_seq ?_
    refine JC_region ?_
    refine JL_move rfl ?_
    refine JL_give 0 rfl ?_
    refine JL_norm _ [] [_, _] rfl rfl rfl ?_
    refine JL_callA' true (AsksA.cons (holdsA_of_mem (by repeat (first | with_reducible exact mm0 | refine mmS ?_))) AsksA.nil) (trim_con _ _ _ _ _ ⟨(by first | rfl | assumption | (simp only [lenS]; omega)), hd, (short_val (k := k) (by omega) hxA hv hr)⟩ (by omega) (by omega)) rfl ca117 ⟨rfl, rfl⟩ ?_
    rintro _ _ ⟨ad40, cap40, rfl, hk40, hm40, rfl⟩
    refine JL_move rfl ?_
    refine JL_convInt us110 it94 rfl (IntWalk.u32_in _ (by omega)) ?_
    refine JL_assign rfl ?_
    refine JL_assign rfl ?_
    refine JL_done_up 43 [] [_, _, _] rfl rfl (by simp only [nrmF]; rfl) rfl rfl ?_
    refine JC_ret ?_
    have hfin := short_rem (k := k) (by omega) hxA hv hr
    rw [hfin]
    refine JE_ret (vs := [_, _]) [vCells ad40 (u32s (limbsOf (x / d)))] Tryz.results135 ⟨rfl, rfl, rfl⟩ ?_ ?_
    · exact ⟨ad40, cap40, rfl, hk40, hm40, rfl⟩
    · exact (all_cons (by repeat (first | with_reducible exact mm0 | refine mmS ?_)) all_nil)

theorem nat_of_con (n : Nat) (hn : n < 18446744073709551616) :
    ConF Tryz.prog 87 [.int .u64 (n : Nat)] []
      (LN n) := by
  refine ConF_of Tryz.func87 rfl 16 _ rfl rfl ?_
  intro w0
  refine JC_norm ⟨16, [], [_, _, _, _, _, _, _, _, _, _, _, _, _, _, _, _]⟩ [] [] rfl rfl rfl ?_
  refine JC_seq ?_
  refine JC_region ?_
  refine JL_alloc z34 (fun b2 => ?_)
  refine JL_done_up 16 [box _ _ [_]] [] rfl rfl (by simp only [nrmF]; rfl) rfl rfl ?_
  refine JC_seq ?_
  refine JC_region ?_
  refine JL_move rfl ?_
  refine JL_rem_to rfl rfl (by omega) (rem_nat n 1000000000) ?_
  refine JL_convInt us110 it94 rfl (IntWalk.u32_in _ (by omega)) ?_
  refine JL_move rfl ?_
  refine JL_quo_to rfl rfl (by omega) (quo_nat_u64 n 1000000000 (by omega)) ?_
  refine JL_rem_to rfl rfl (by omega) (rem_nat (n / 1000000000) 1000000000) ?_
  refine JL_convInt us110 it94 rfl (IntWalk.u32_in _ (by omega)) ?_
  refine JL_move rfl ?_
  refine JL_quo_to rfl rfl (by omega) (quo_nat_u64 n 1000000000 (by omega)) ?_
  refine JL_quo_to rfl rfl (by omega) (quo_nat_u64 (n / 1000000000) 1000000000 (by omega)) ?_
  refine JL_convInt us110 it94 rfl (IntWalk.u32_in _ (by omega)) ?_
  refine JL_buildN (cs0 := [.int .u32 0, .int .u32 0, .int .u32 0]) (cs := [_, _, _]) [(0, [_]), (1, [_]), (2, [_])] sl32 (by kernel_rfl) ⟨⟨rfl, _, rfl, rfl⟩, ⟨rfl, _, rfl, rfl⟩, ⟨rfl, _, rfl, rfl⟩, rfl⟩ rfl rfl rfl rfl (fun g14 => ?_)
  refine JL_norm _ [box _ _ [_], osl _ _ _ _ _ (u32s ([n % 1000000000, n / 1000000000 % 1000000000, n / 1000000000 / 1000000000]))] [] rfl rfl rfl ?_
  refine JL_give 1 rfl ?_
  refine JL_norm _ [box _ _ [_]] [_] rfl rfl rfl ?_
  refine JL_callA' true (AsksA.cons (holdsA_of_mem (by repeat (first | with_reducible exact mm0 | refine mmS ?_))) AsksA.nil) (made_con _ 3 _ _ _ ⟨rfl, Dig.cons (by omega) (Dig.cons (by omega) (Dig.cons (by omega) Dig.nil)), val_of3 n⟩ (by omega) (by omega)) rfl ca85 ⟨rfl, rfl⟩ ?_
  rintro _ _ ⟨ad15, cap15, rfl, hk15, hm15, rfl⟩
  refine JL_store (vs := [_]) 0 ty34 rfl rfl rfl (AllOne.cons rfl AllOne.nil) rfl (Nat.le_of_ble_eq_true rfl) ?_
  refine JL_done_up 16 [box _ _ [_]] [_, _] rfl rfl (by simp only [nrmF]; rfl) rfl rfl ?_
  refine JC_ret ?_
  refine JE_ret (vs := [_]) [vCells ad15 (u32s (limbsOf (n)))] Tryz.results87 ⟨RV.cell (vs := [_]) 0 ty34 rfl rfl ⟨rfl, trivial⟩, rfl⟩ ?_ ?_
  · exact ⟨ad15, cap15, rfl, hk15, hm15, rfl⟩
  · exact (all_cons (by repeat (first | with_reducible exact mm0 | refine mmS ?_)) all_nil)

theorem clone_con (ad : Option Addr) (n cap : Nat) (L : List Nat) (hl : L.length = n) (hb : n ≤ 1000000000) :
    ConF Tryz.prog 136 [.slice ad n cap] [vCells ad (u32s L)]
      (LC L) := by
  subst hl
  refine ConF_of Tryz.func136 rfl 8 _ rfl rfl ?_
  intro w0
  refine JC_norm ⟨8, [], [_, _, _, _, _, _, _, _]⟩ [] [_] rfl rfl rfl ?_
  refine JC_seq ?_
  refine JC_region ?_
  refine JL_assign rfl ?_
  refine JL_done_up 8 [] [_] rfl rfl (by simp only [nrmF]; rfl) rfl rfl ?_
  refine JC_seq ?_
  refine JC_seq ?_
  refine JC_region ?_
  refine JL_move rfl ?_
  refine JL_eqlNil sl32 rfl rfl ?_
  refine JL_splitV (fun h4 => ?_) (fun h4 => ?_)
  · refine JL_fact (fun w s => nilL s List.mem_cons_self h4) (fun hL => ?_)
    refine JL_done_up 8 [] [_] rfl rfl (by simp only [nrmF]; rfl) rfl rfl ?_
    refine JC_true rfl ?_
    refine JC_seq ?_
    refine JC_region ?_
    refine JL_assign rfl ?_
    refine JL_done_up 8 [] [_] rfl rfl (by simp only [nrmF]; rfl) rfl rfl ?_
    refine JC_ret ?_
    refine JE_then_ret ?_
    refine JE_nilView ?_
    refine JE_ret (vs := [_]) [vCells none (u32s [])] Tryz.results136 ⟨rfl, rfl⟩ ?_ ?_
    · exact ⟨none, 0, by rw [hL]; rfl, by rw [hL]; exact Nat.le_refl _, by omega, by rw [hL]⟩
    · exact (all_cons (by repeat (first | with_reducible exact mm0 | refine mmS ?_)) all_nil)
  · refine JL_done_up 8 [] [_] rfl rfl (by simp only [nrmF]; rfl) rfl rfl ?_
    refine JC_false rfl ?_
    refine JC_skip ?_
    refine JE_then ?_
    refine JC_seq ?_
    refine JC_region ?_
    refine JL_build0 sl32 (fun g5 => ?_)
    refine JL_move rfl ?_
    refine JL_appendUV (L := []) (M := L) 0 sl32 rfl rfl rfl (by first | exact Reads.view (by repeat (first | with_reducible exact mm0 | refine mmS ?_)) | (exact Reads.own 0 rfl)) (by first | rfl | assumption | (simp only [lenS]; omega)) (by omega) (by omega) (fun ad7 cap7 hc7 => ?_)
    refine JL_assign rfl ?_
    refine JL_done_up 8 [osl _ _ _ _ _ _] [_] rfl rfl (by simp only [nrmF]; rfl) rfl rfl ?_
    refine JC_ret ?_
    refine JE_give 0 rfl ?_
    refine JE_norm _ [] [_, _] rfl rfl rfl ?_
    refine JE_ret (vs := [_]) [vCells ad7 (u32s ([] ++ L))] Tryz.results136 ⟨rfl, rfl⟩ ?_ ?_
    · exact ⟨ad7, cap7, by rw [Nat.zero_add]; rfl, by omega, by omega, rfl⟩
    · exact (all_cons (by repeat (first | with_reducible exact mm0 | refine mmS ?_)) all_nil)

set_option maxHeartbeats 1000000 in
set_option maxRecDepth 20000 in
theorem divide_con (ad1 : Option Addr) (n1 c1 : Nat) (ad2 : Option Addr) (n2 c2 : Nat) (n m : Nat) (h1 : (limbsOf n).length = n1) (h2 : (limbsOf m).length = n2) (hb : n1 ≤ 500000000) (hb2 : n2 ≤ 500000000) (hm0 : 0 < m) (hk1 : n1 ≤ c1) (hm1 : c1 ≤ 9223372036854775807) :
    ConA Tryz.prog 118 [.slice ad1 n1 c1, .slice ad2 n2 c2] [vCells ad1 (u32s (limbsOf n)), vCells ad2 (u32s (limbsOf m))]
      (LS2 (n / m) (n % m)) := by
  subst h1 h2
  refine ConA_of Tryz.func118 rfl 153 _ rfl rfl ?_
  intro w0
  refine JC_norm ⟨153, [], [_, _, _, _, _, _, _, _, _, _, _, _, _, _, _, _, _, _, _, _, _, _, _, _, _, _, _, _, _, _, _, _, _, _, _, _, _, _, _, _, _, _, _, _, _, _, _, _, _, _, _, _, _, _, _, _, _, _, _, _, _, _, _, _, _, _, _, _, _, _, _, _, _, _, _, _, _, _, _, _, _, _, _, _, _, _, _, _, _, _, _, _, _, _, _, _, _, _, _, _, _, _, _, _, _, _, _, _, _, _, _, _, _, _, _, _, _, _, _, _, _, _, _, _, _, _, _, _, _, _, _, _, _, _, _, _, _, _, _, _, _, _, _, _, _, _, _, _, _, _, _, _, _]⟩ [] [_, _] rfl rfl rfl ?_
  refine JC_seq ?_
  refine JC_region ?_
  refine JL_assign rfl ?_
  refine JL_assign rfl ?_
  refine JL_done_up 153 [] [_, _] rfl rfl (by simp only [nrmF]; rfl) rfl rfl ?_
  refine JC_seq ?_
  refine JC_seq ?_
  refine JC_region ?_
  refine JL_move rfl ?_
  refine JL_move rfl ?_
  refine JL_callF' (Asks.cons (holds_of_mem (by repeat (first | with_reducible exact mm0 | refine mmS ?_))) (Asks.cons (holds_of_mem (by repeat (first | with_reducible exact mm0 | refine mmS ?_))) Asks.nil)) (compare_con _ _ _ _ _ _ _ _ rfl rfl (by omega) (by omega)) rfl ca83 ⟨rfl, rfl, rfl⟩ ?_
  rintro _ _ ⟨rfl, rfl⟩
  refine JL_lss rfl rfl ?_
  refine JL_split (fun h22 => ?_) (fun h22 => ?_)
  · refine JL_done_up 153 [] [_, _] rfl rfl (by simp only [nrmF]; rfl) rfl rfl ?_
    refine JC_true rfl ?_
    refine JC_seq ?_
    refine JC_region ?_
    refine JL_move rfl ?_
    refine JL_assign rfl ?_
    refine JL_assign rfl ?_
    refine JL_done_up 153 [] [_, _] rfl rfl (by simp only [nrmF]; rfl) rfl rfl ?_
    refine JC_ret ?_
    refine JE_then_ret ?_
    have hlt : n < m := cmpN_neg.1 h22
    refine JE_nilView ?_
    refine JE_ret (vs := [_, _]) [vCells none (u32s []), vCells ad1 (u32s (limbsOf n))] Tryz.results118 ⟨rfl, rfl, rfl⟩ ?_ ?_
    · exact ⟨none, 0, ad1, c1, by rw [Nat.div_eq_of_lt hlt, Nat.mod_eq_of_lt hlt, limbsOf_zero]; rfl, by rw [Nat.div_eq_of_lt hlt, limbsOf_zero]; exact Nat.le_refl _, by omega, by rw [Nat.mod_eq_of_lt hlt]; exact hk1, hm1, by rw [Nat.div_eq_of_lt hlt, Nat.mod_eq_of_lt hlt, limbsOf_zero]⟩
    · exact (all_cons (by repeat (first | with_reducible exact mm0 | refine mmS ?_)) (all_cons (by repeat (first | with_reducible exact mm0 | refine mmS ?_)) all_nil))
  · refine JL_done_up 153 [] [_, _] rfl rfl (by simp only [nrmF]; rfl) rfl rfl ?_
    refine JC_false rfl ?_
    refine JC_skip ?_
    refine JE_then ?_
    refine JC_seq ?_
    refine JC_seq ?_
    refine JC_region ?_
    refine JL_move rfl ?_
    refine JL_len sl32 rfl ?_
    refine JL_eql rfl rfl ?_
    refine JL_split (fun h26 => ?_) (fun h26 => ?_)
    · refine JL_done_up 153 [] [_, _] rfl rfl (by simp only [nrmF]; rfl) rfl rfl ?_
      refine JC_true rfl ?_
      refine JC_seq ?_
      refine JC_region ?_
      refine JL_move rfl ?_
      refine JL_move rfl ?_
      refine JL_idx 0 sl32 rfl rfl rfl (by omega) (Reads.view (List.mem_cons_of_mem _ List.mem_cons_self)) (by first | (rw [u32s_length]; omega) | (rw [i64s_length]; omega)) ?_
      obtain ⟨hm9, hmL⟩ := limbsOf_single (n := m) (by omega)
      refine JL_loadE ty94 rfl (Reads.view (List.mem_cons_of_mem _ List.mem_cons_self)) (u32s_get (by omega)) ?_
      rw [show (limbsOf m).getD 0 0 = m from by rw [hmL]; rfl]
      refine JL_callF' (Asks.cons (holds_of_mem (by repeat (first | with_reducible exact mm0 | refine mmS ?_))) Asks.nil) (short_con _ _ _ _ n m DIn.of (by omega) (by omega) (by omega)) rfl ca135 ⟨rfl, rfl, rfl⟩ ?_
      rintro _ _ ⟨ad32, cap32, rfl, hk32, hm32, rfl⟩
      refine JL_move rfl ?_
      refine JL_extract rfl rfl ?_
      refine JL_extract rfl rfl ?_
      refine JL_assign rfl ?_
      refine JL_assign rfl ?_
      refine JL_done_up 153 [] [_, _, _] rfl rfl (by simp only [nrmF]; rfl) rfl rfl ?_
      refine JC_seq ?_
      refine JC_region ?_
      refine JL_move rfl ?_
      refine JL_move rfl ?_
      refine JL_build1 sl32 rfl rfl (fun g37 => ?_)
      refine JL_norm _ [osl _ _ _ _ _ (u32s ([n % m]))] [_, _, _] rfl rfl rfl ?_
      refine JL_give 0 rfl ?_
      refine JL_norm _ [] [_, _, _, _] rfl rfl rfl ?_
      refine JL_callA' true (AsksA.cons (holdsA_of_mem (by repeat (first | with_reducible exact mm0 | refine mmS ?_))) AsksA.nil) (trim_con _ 1 _ _ (n % m) (DIn.one (by have := Nat.mod_lt n hm0; omega)) (by omega) (by omega)) rfl ca117 ⟨rfl, rfl⟩ ?_
      rintro _ _ ⟨ad38, cap38, rfl, hk38, hm38, rfl⟩
      refine JL_assign rfl ?_
      refine JL_assign rfl ?_
      refine JL_done_up 153 [] [_, _, _, _, _] rfl rfl (by simp only [nrmF]; rfl) rfl rfl ?_
      refine JC_ret ?_
      refine JE_then_ret ?_
      refine JE_ret (vs := [_, _]) [vCells ad32 (u32s (limbsOf (n / m))), vCells ad38 (u32s (limbsOf (n % m)))] Tryz.results118 ⟨rfl, rfl, rfl⟩ ?_ ?_
      · exact ⟨ad32, cap32, ad38, cap38, rfl, hk32, hm32, hk38, hm38, rfl⟩
      · exact (all_cons (by repeat (first | with_reducible exact mm0 | refine mmS ?_)) (all_cons (by repeat (first | with_reducible exact mm0 | refine mmS ?_)) all_nil))
    · refine JL_done_up 153 [] [_, _] rfl rfl (by simp only [nrmF]; rfl) rfl rfl ?_
      refine JC_false rfl ?_
      refine JC_skip ?_
      refine JE_then ?_
      refine JC_seq ?_
      refine JC_region ?_
      refine JL_move rfl ?_
      refine JL_move rfl ?_
      refine JL_len sl32 rfl ?_
      refine JL_sub_to rfl rfl (IntWalk.i64_in _ (by omega)) ?_
      have hle : m ≤ n := by have := cmpN_neg (n := n) (m := m); omega
      have hmp := limbsOf_len_pos hm0
      have htop := limbsOf_top hm0
      have htop9 := (dig_limbsOf m).getD ((limbsOf m).length - 1)
      obtain ⟨tp, htp⟩ : ∃ tp, (limbsOf m).getD ((limbsOf m).length - 1) 0 = tp := ⟨_, rfl⟩
      rw [htp] at htop htop9
      refine JL_idx ((limbsOf m).length - 1) sl32 rfl rfl (by omega) (by omega) (Reads.view (List.mem_cons_of_mem _ List.mem_cons_self)) (by first | (rw [u32s_length]; omega) | (rw [i64s_length]; omega)) ?_
      refine JL_loadE ty94 rfl (Reads.view (List.mem_cons_of_mem _ List.mem_cons_self)) (u32s_get (by omega)) ?_
      rw [htp]
      refine JL_add_to rfl rfl (IntWalk.u32_in _ (by omega)) ?_
      rw [show (((tp : Nat) : Int) + 1 : Int) = ((tp + 1 : Nat) : Int) from rfl]
      obtain ⟨sc, hsc⟩ : ∃ sc, 1000000000 / (tp + 1) = sc := ⟨_, rfl⟩
      have hs0 : 0 < sc := by rw [← hsc]; exact (scale_pos (by omega)).1
      have hs9 : sc < 1000000000 := by rw [← hsc]; exact scale_dig htop
      refine JL_quo_to rfl rfl (by omega) (quo_nat_u32 1000000000 (tp + 1) (by decide)) ?_
      rw [hsc]
      refine JL_build1 sl32 rfl rfl (fun g47 => ?_)
      refine JL_norm _ [osl _ _ _ _ _ (u32s ([sc]))] [_, _] rfl rfl rfl ?_
      refine JL_assign rfl ?_
      refine JL_done_up 153 [osl _ _ _ _ _ _] [_, _] rfl rfl (by simp only [nrmF]; rfl) rfl rfl ?_
      refine JC_seq ?_
      refine JC_region ?_
      refine JL_move rfl ?_
      refine JL_move rfl ?_
      obtain ⟨N, hN⟩ : ∃ N, n * sc = N := ⟨_, rfl⟩
      obtain ⟨V, hV⟩ : ∃ V, m * sc = V := ⟨_, rfl⟩
      have hscl : (limbsOf sc).length ≤ 1 := limbsOf_len_of_lt (by omega)
      have hNl := len_limbsOf_mul n sc
      have hVl := len_limbsOf_mul m sc
      rw [hN] at hNl
      rw [hV] at hVl
      have hVN : (limbsOf V).length ≤ (limbsOf N).length := len_limbsOf_le (by rw [← hN, ← hV]; exact Nat.mul_le_mul_right _ hle)
      have hV0 : 0 < V := by rw [← hV]; exact Nat.mul_pos hm0 hs0
      have hVp := limbsOf_len_pos hV0
      refine JL_callF' (Asks.cons (by first | exact holds_of_mem (by repeat (first | with_reducible exact mm0 | refine mmS ?_)) | (exact holds_of_own 0 rfl)) (Asks.cons (by first | exact holds_of_mem (by repeat (first | with_reducible exact mm0 | refine mmS ?_)) | (exact holds_of_own 0 rfl)) Asks.nil)) (times_con _ _ _ _ _ _ _ _ _ _ N hN DIn.of (DIn.one hs9) (by omega) (by omega)) rfl ca86 ⟨rfl, rfl, rfl⟩ ?_
      rintro _ _ ⟨ad50, cap50, rfl, hk50, hm50, rfl⟩
      refine JL_move rfl ?_
      refine JL_move rfl ?_
      refine JL_callF' (Asks.cons (by first | exact holds_of_mem (by repeat (first | with_reducible exact mm0 | refine mmS ?_)) | (exact holds_of_own 0 rfl)) (Asks.cons (by first | exact holds_of_mem (by repeat (first | with_reducible exact mm0 | refine mmS ?_)) | (exact holds_of_own 0 rfl)) Asks.nil)) (times_con _ _ _ _ _ _ _ _ _ _ V hV DIn.of (DIn.one hs9) (by omega) (by omega)) rfl ca86 ⟨rfl, rfl, rfl⟩ ?_
      rintro _ _ ⟨ad53, cap53, rfl, hk53, hm53, rfl⟩
      refine JL_assign rfl ?_
      refine JL_assign rfl ?_
      refine JL_done_up 153 [osl _ _ _ _ _ _] [_, _, _, _] rfl rfl (by simp only [nrmF]; rfl) rfl rfl ?_
      refine JC_seq ?_
      refine JC_region ?_
      refine JL_move rfl ?_
      refine JL_len sl32 rfl ?_
      refine JL_move rfl ?_
      refine JL_len sl32 rfl ?_
      refine JL_sub_to rfl rfl (IntWalk.i64_in _ (by omega)) ?_
      refine JL_add_to rfl rfl (IntWalk.i64_in _ (by omega)) ?_
      refine JL_make1 ((limbsOf N).length - (limbsOf V).length + 1) ((limbsOf N).length - (limbsOf V).length + 1) sl32 rfl rfl (by omega) (by omega) (by omega) (by omega) (by omega) (fun g60 => ?_)
      rw [u32s_replicate]
      refine JL_assign rfl ?_
      refine JL_done_up 153 [osl _ _ _ _ _ _, osl _ _ _ _ _ _] [_, _, _, _] rfl rfl (by simp only [nrmF]; rfl) rfl rfl ?_
      refine JC_seq ?_
      refine JC_seq ?_
      refine JC_region ?_
      refine JL_move rfl ?_
      refine JL_len sl32 rfl ?_
      refine JL_move rfl ?_
      refine JL_len sl32 rfl ?_
      refine JL_sub_to rfl rfl (IntWalk.i64_in _ (by omega)) ?_
      rw [show ((((limbsOf N).length : Nat) : Int) - (((limbsOf V).length : Nat) : Int) : Int) = ((((limbsOf N).length - (limbsOf V).length + 1) : Nat) : Int) - 1 from by omega]
      refine JL_assign rfl ?_
      refine JL_done_up 153 [osl _ _ _ _ _ _, osl _ _ _ _ _ _] [_, _, _, _] rfl rfl (by simp only [nrmF]; rfl) rfl rfl ?_
      refine JC_block ?_
      refine JC_loopS ((Nat) × (Option Addr) × (Nat) × (Nat) × (List Nat) × (List Nat)) (fun (jj, ua, un, uc, U, q) => DivInv N V ((limbsOf N).length - (limbsOf V).length + 1) U q jj ∧ U.length = un ∧ jj ≤ ((limbsOf N).length - (limbsOf V).length + 1) ∧ un ≤ (limbsOf N).length ∧ un ≤ uc ∧ uc ≤ 9223372036854775807) (fun (jj, ua, un, uc, U, q) => jj) (fun u (jj, ua, un, uc, U, q) => [none, none, none, none, none, none, none, none, none, some (.slice ua un uc), none, none, some (.int .i64 ((jj : Nat) - 1)), some (u 13), some (u 14), some (u 15), some (u 16), none, none, none, none, none, none, none, none, none, none, none, none, none, none, none, none, none, none, none, none, none, none, none, none, none, none, none, none, none, none, none, none, none, none, none, none, none, none, none, none, none, none, none, none, none, none, none, none, none, some (u 66), some (u 67), some (u 68), some (u 69), some (u 70), some (u 71), some (u 72), some (u 73), some (u 74), some (u 75), some (u 76), some (u 77), some (u 78), some (u 79), some (u 80), some (u 81), some (u 82), some (u 83), some (u 84), some (u 85), some (u 86), some (u 87), some (u 88), some (u 89), some (u 90), some (u 91), some (u 92), some (u 93), some (u 94), some (u 95), some (u 96), some (u 97), some (u 98), some (u 99), some (u 100), some (u 101), some (u 102), some (u 103), some (u 104), some (u 105), some (u 106), some (u 107), some (u 108), some (u 109), some (u 110), some (u 111), some (u 112), some (u 113), some (u 114), some (u 115), some (u 116), some (u 117), some (u 118), some (u 119), some (u 120), some (u 121), some (u 122), some (u 123), some (u 124), some (u 125), some (u 126), some (u 127), some (u 128), some (u 129), some (u 130), some (u 131), some (u 132), some (u 133), some (u 134), some (u 135), some (u 136), some (u 137), some (u 138), some (u 139), some (u 140), none, none, none, none, none, none, none, none, none, none, none, none]) (fun (jj, ua, un, uc, U, q) => [none, some (osl (some ⟨g60, 0, none⟩) ((limbsOf N).length - (limbsOf V).length + 1) ((limbsOf N).length - (limbsOf V).length + 1) 94 1 (u32s q))]) (fun (jj, ua, un, uc, U, q) => [(true, vCells ua (u32s U))]) (((limbsOf N).length - (limbsOf V).length + 1), ad50, (limbsOf N).length, cap50, limbsOf N, List.replicate ((limbsOf N).length - (limbsOf V).length + 1) 0) (by kernel_rfl) ?_ (by kernel_rfl) ?_ ?_
      · exact ⟨DivInv.start (lv := (limbsOf V).length) (dig_limbsOf N) (val_limbsOf N).symm (by omega) (pow_len_le V hV0), rfl, by omega, by omega, by omega, by omega⟩
      · exact (subset_cons (by repeat (first | with_reducible exact mm0 | refine mmS ?_)) subset_nil)
      intro u i hC
      obtain ⟨jj, ua, un, uc, U, q⟩ := i
      obtain ⟨hI, hun, hjj, hul, huc, hucm⟩ := hC
      refine JC_norm ⟨153, [], [_, _, _, _, _, _, _, _, _, _, _, _, _, _, _, _, _, _, _, _, _, _, _, _, _, _, _, _, _, _, _, _, _, _, _, _, _, _, _, _, _, _, _, _, _, _, _, _, _, _, _, _, _, _, _, _, _, _, _, _, _, _, _, _, _, _, _, _, _, _, _, _, _, _, _, _, _, _, _, _, _, _, _, _, _, _, _, _, _, _, _, _, _, _, _, _, _, _, _, _, _, _, _, _, _, _, _, _, _, _, _, _, _, _, _, _, _, _, _, _, _, _, _, _, _, _, _, _, _, _, _, _, _, _, _, _, _, _, _, _, _, _, _, _, _, _, _, _, _, _, _, _, _]⟩ [osl _ _ _ _ _ _, osl _ _ _ _ _ _] [_, _, _, _, _] rfl rfl rfl ?_
      refine JC_seq ?_
      refine JC_seq ?_
      refine JC_region ?_
      refine JL_move rfl ?_
      refine JL_geq rfl rfl ?_
      refine JL_split (fun h67 => ?_) (fun h67 => ?_)
      · have hI1 : DivInv N V ((limbsOf N).length - (limbsOf V).length + 1) U q (jj - 1 + 1) := by rw [Nat.sub_add_cancel (by omega)]; exact hI
        obtain ⟨P, hP⟩ : ∃ P, val (U.drop (jj - 1)) = P := ⟨_, rfl⟩
        have hPV := hI1.part_lt
        rw [hP] at hPV
        have hPl := len_limbsOf_dig (hI.du.drop (jj - 1))
        rw [hP, List.length_drop] at hPl
        refine JL_done_up 153 [osl _ _ _ _ _ _, osl _ _ _ _ _ _] [_, _, _, _, _] rfl rfl (by simp only [nrmF]; rfl) rfl rfl ?_
        refine JC_true rfl ?_
        refine JC_skip ?_
        refine JE_then ?_
        refine JC_seq ?_
        refine JC_block ?_
        refine JC_seq ?_
        refine JC_region ?_
        refine JL_move rfl ?_
        refine JL_move rfl ?_
        refine JL_move rfl ?_
        refine JL_len sl32 rfl ?_
        refine JL_min rfl rfl ?_
        refine JL_slice (min (jj - 1) un) un uc sl32 rfl (.some rfl (by omega)) .none .none (.inl rfl) (by omega) (by omega) (by omega) ?_
        refine JL_viewSub (ad := ua) (L := U) uc (min (jj - 1) un) un List.mem_cons_self (by omega) ?_
        rw [← hun, List.take_length, u_drop_min, hun]
        refine JL_callF' (Asks.cons (by first | exact holds_of_mem (by repeat (first | with_reducible exact mm0 | refine mmS ?_)) | (exact holds_of_own 0 rfl) | (exact holds_of_own 1 rfl)) Asks.nil) (clone_con _ _ _ _ (by rw [List.length_drop]; omega) (by omega)) rfl ca136 ⟨rfl, rfl⟩ ?_
        rintro _ _ ⟨ad76, cap76, rfl, hk76, hm76, rfl⟩
        refine JL_callA' true (AsksA.cons (holdsA_of_mem (by repeat (first | with_reducible exact mm0 | refine mmS ?_))) AsksA.nil) (trim_con _ _ _ _ P ⟨rfl, hI.du.drop _, hP⟩ (by omega) (by omega)) rfl ca117 ⟨rfl, rfl⟩ ?_
        rintro _ _ ⟨ad77, cap77, rfl, hk77, hm77, rfl⟩
        refine JL_assign rfl ?_
        refine JL_done_up 153 [osl _ _ _ _ _ _, osl _ _ _ _ _ _] [_, _, _, _, _, _, _, _] rfl rfl (by simp only [nrmF]; rfl) rfl rfl ?_
        refine JC_seq ?_
        refine JC_seq ?_
        refine JC_region ?_
        refine JL_move rfl ?_
        refine JL_move rfl ?_
        refine JL_callF' (Asks.cons (by first | exact holds_of_mem (by repeat (first | with_reducible exact mm0 | refine mmS ?_)) | (exact holds_of_own 0 rfl) | (exact holds_of_own 1 rfl)) (Asks.cons (by first | exact holds_of_mem (by repeat (first | with_reducible exact mm0 | refine mmS ?_)) | (exact holds_of_own 0 rfl) | (exact holds_of_own 1 rfl)) Asks.nil)) (compare_con _ _ _ _ _ _ P V rfl rfl (by omega) (by omega)) rfl ca83 ⟨rfl, rfl, rfl⟩ ?_
        rintro _ _ ⟨rfl, rfl⟩
        refine JL_lss rfl rfl ?_
        refine JL_split (fun h81 => ?_) (fun h81 => ?_)
        · refine JL_done_up 153 [osl _ _ _ _ _ _, osl _ _ _ _ _ _] [_, _, _, _, _, _, _, _] rfl rfl (by simp only [nrmF]; rfl) rfl rfl ?_
          refine JC_true rfl ?_
          refine JC_exit ?_
          refine JE_then_exit ?_
          refine JE_block_exit ?_
          refine JE_then ?_
          refine JC_region ?_
          refine JL_move rfl ?_
          refine JL_sub_to rfl rfl (IntWalk.i64_in _ (by omega)) ?_
          rw [show ((jj : Int) - 1 - 1 : Int) = ((jj - 1 : Nat) : Int) - 1 from by omega]
          refine JL_assign rfl ?_
          refine JL_nil_up 153 [osl _ _ _ _ _ _, osl _ _ _ _ _ _] [_, _, _, _, _, _, _, _] rfl rfl (by simp only [nrmF]; rfl) rfl rfl ?_
          refine JE_nextS (jj - 1, ua, un, uc, U, q) (by kernel_rfl) ?_ ?_ (by kernel_rfl) ?_
          · exact ⟨hI1.skip (by omega) (by rw [hP]; exact cmpN_neg.1 h81), hun, by omega, hul, huc, hucm⟩
          · first | omega | (dsimp only; omega)
          · exact subset_app (subset_cons (by repeat (first | with_reducible exact mm0 | refine mmS ?_)) subset_nil) (ssS (ssS (ssS (ssS ss0))))
        · have hVP : V ≤ P := by have := cmpN_neg (n := P) (m := V); omega
          have hlVP := len_limbsOf_le hVP
          have hlP1 := part_len hPV
          have htP := (dig_limbsOf P).getD ((limbsOf P).length - 1)
          have htP2 := (dig_limbsOf P).getD ((limbsOf P).length - 2)
          refine JL_done_up 153 [osl _ _ _ _ _ _, osl _ _ _ _ _ _] [_, _, _, _, _, _, _, _] rfl rfl (by simp only [nrmF]; rfl) rfl rfl ?_
          refine JC_false rfl ?_
          refine JC_skip ?_
          refine JE_then ?_
          refine JC_seq ?_
          refine JC_region ?_
          refine JL_move rfl ?_
          refine JL_move rfl ?_
          refine JL_len sl32 rfl ?_
          refine JL_sub_to rfl rfl (IntWalk.i64_in _ (by omega)) ?_
          refine JL_idx ((limbsOf P).length - 1) sl32 rfl rfl (by omega) (by omega) (by first | exact Reads.view (by repeat (first | with_reducible exact mm0 | refine mmS ?_)) | (exact Reads.own 0 rfl) | (exact Reads.own 1 rfl)) (by first | (rw [u32s_length]; omega) | (rw [i64s_length]; omega)) ?_
          refine JL_loadE ty94 rfl (by first | exact Reads.view (by repeat (first | with_reducible exact mm0 | refine mmS ?_)) | (exact Reads.own 0 rfl) | (exact Reads.own 1 rfl)) (u32s_get (by omega)) ?_
          refine JL_convInt us94 it110 rfl (IntWalk.u64_in _ (by omega)) ?_
          refine JL_assign rfl ?_
          refine JL_done_up 153 [osl _ _ _ _ _ _, osl _ _ _ _ _ _] [_, _, _, _, _, _, _, _] rfl rfl (by simp only [nrmF]; rfl) rfl rfl ?_
          refine JC_seq ?_
          refine JC_seq ?_
          refine JC_region ?_
          refine JL_move rfl ?_
          refine JL_len sl32 rfl ?_
          refine JL_move rfl ?_
          refine JL_len sl32 rfl ?_
          refine JL_gtr rfl rfl ?_
          refine JL_done_up 153 [osl _ _ _ _ _ _, osl _ _ _ _ _ _] [_, _, _, _, _, _, _, _] rfl rfl (by simp only [nrmF]; rfl) rfl rfl ?_
          refine JC_cutT ((Nat)) (fun (top : Nat) => top = P / 1000000000 ^ ((limbsOf V).length - 1)) (fun u (top : Nat) => [none, none, none, none, none, none, none, none, none, none, none, none, none, none, some (.int .u64 (top : Nat)), none, none, none, none, none, none, none, none, none, none, none, none, none, none, none, none, none, none, none, none, none, none, none, none, none, none, none, none, none, none, none, none, none, none, none, none, none, none, none, none, none, none, none, none, none, none, none, none, none, none, none, none, none, none, none, none, none, none, none, none, none, none, none, none, none, none, none, none, none, none, none, none, none, none, none, none, none, none, none, some (u 94), some (u 95), some (u 96), some (u 97), some (u 98), some (u 99), some (u 100), some (u 101), some (u 102), some (u 103), none, none, none, none, none, none, none, none, none, none, none, none, none, none, none, none, none, none, none, none, none, none, none, none, none, none, none, none, none, none, none, none, none, none, none, none, none, none, none, none, none, none, none, none, none, none, none, none, none]) (fun (top : Nat) => [none, none]) (fun (top : Nat) => []) ?_ ?_
          · refine JC_cond rfl (fun hb => ?_) (fun hb => ?_)
            · have h93 := of_decide_eq_true hb
              refine JC_region ?_
              refine JL_move rfl ?_
              refine JL_mul_to rfl rfl (IntWalk.u64_in _ (by omega)) ?_
              refine JL_move rfl ?_
              refine JL_move rfl ?_
              refine JL_len sl32 rfl ?_
              refine JL_sub_to rfl rfl (IntWalk.i64_in _ (by omega)) ?_
              refine JL_idx ((limbsOf P).length - 2) sl32 rfl rfl (by omega) (by omega) (by first | exact Reads.view (by repeat (first | with_reducible exact mm0 | refine mmS ?_)) | (exact Reads.own 0 rfl) | (exact Reads.own 1 rfl)) (by first | (rw [u32s_length]; omega) | (rw [i64s_length]; omega)) ?_
              refine JL_loadE ty94 rfl (by first | exact Reads.view (by repeat (first | with_reducible exact mm0 | refine mmS ?_)) | (exact Reads.own 0 rfl) | (exact Reads.own 1 rfl)) (u32s_get (by omega)) ?_
              refine JL_convInt us94 it110 rfl (IntWalk.u64_in _ (by omega)) ?_
              refine JL_add_to rfl rfl (IntWalk.u64_in _ (by omega)) ?_
              refine JL_assign rfl ?_
              refine JL_nil_up 153 [osl _ _ _ _ _ _, osl _ _ _ _ _ _] [_, _, _, _, _, _, _, _] rfl rfl (by simp only [nrmF]; rfl) rfl rfl ?_
              refine JE_midS ((limbsOf P).getD ((limbsOf P).length - 1) 0 * 1000000000 + (limbsOf P).getD ((limbsOf P).length - 2) 0) (by kernel_rfl) ?_ (by kernel_rfl) ?_
              · exact top2' (by omega) (by omega) (by omega)
              · exact subset_app subset_nil ss0
            · have h93 := of_decide_eq_false hb
              refine JC_skip ?_
              refine JE_midS ((limbsOf P).getD ((limbsOf P).length - 1) 0) (by kernel_rfl) ?_ (by kernel_rfl) ?_
              · exact top1' (by omega) (by omega)
              · exact subset_app subset_nil ss0
          intro u top htt
          refine JC_norm ⟨153, [], [_, _, _, _, _, _, _, _, _, _, _, _, _, _, _, _, _, _, _, _, _, _, _, _, _, _, _, _, _, _, _, _, _, _, _, _, _, _, _, _, _, _, _, _, _, _, _, _, _, _, _, _, _, _, _, _, _, _, _, _, _, _, _, _, _, _, _, _, _, _, _, _, _, _, _, _, _, _, _, _, _, _, _, _, _, _, _, _, _, _, _, _, _, _, _, _, _, _, _, _, _, _, _, _, _, _, _, _, _, _, _, _, _, _, _, _, _, _, _, _, _, _, _, _, _, _, _, _, _, _, _, _, _, _, _, _, _, _, _, _, _, _, _, _, _, _, _, _, _, _, _, _, _]⟩ [osl _ _ _ _ _ _, osl _ _ _ _ _ _] [_, _, _, _, _, _, _, _] rfl rfl rfl ?_
          refine JC_seq ?_
          refine JC_region ?_
          refine JL_move rfl ?_
          refine JL_move rfl ?_
          refine JL_move rfl ?_
          refine JL_len sl32 rfl ?_
          refine JL_sub_to rfl rfl (IntWalk.i64_in _ (by omega)) ?_
          have htV := (dig_limbsOf V).getD ((limbsOf V).length - 1)
          have htV0 := limbsOf_top hV0
          have htV1 := top1 (dig_limbsOf V) (k := (limbsOf V).length - 1) (by omega)
          rw [val_limbsOf] at htV1
          obtain ⟨vt, hvt⟩ : ∃ vt, (limbsOf V).getD ((limbsOf V).length - 1) 0 = vt := ⟨_, rfl⟩
          rw [hvt] at htV htV0 htV1
          have hgg := guess_ge hV0 hPV htt htV1 htV0
          obtain ⟨gq, hgq⟩ : ∃ gq, top / vt = gq := ⟨_, rfl⟩
          rw [hgq] at hgg
          have htop64 : top < 18446744073709551616 := by rw [htt]; exact top_lt hV0 hPV
          refine JL_idx ((limbsOf V).length - 1) sl32 rfl rfl (by omega) (by omega) (by first | exact Reads.view (by repeat (first | with_reducible exact mm0 | refine mmS ?_)) | (exact Reads.own 0 rfl) | (exact Reads.own 1 rfl)) (by first | (rw [u32s_length]; omega) | (rw [i64s_length]; omega)) ?_
          refine JL_loadE ty94 rfl (by first | exact Reads.view (by repeat (first | with_reducible exact mm0 | refine mmS ?_)) | (exact Reads.own 0 rfl) | (exact Reads.own 1 rfl)) (u32s_get (by omega)) ?_
          rw [hvt]
          refine JL_convInt us94 it110 rfl (IntWalk.u64_in _ (by omega)) ?_
          refine JL_quo_to rfl rfl (by omega) (quo_nat_u64 top vt htop64) ?_
          rw [hgq]
          refine JL_min rfl rfl ?_
          rw [show (if (999999999 : Int) < ((gq : Nat) : Int) then (999999999 : Int) else ((gq : Nat) : Int)) = ((min gq 999999999 : Nat) : Int) from by split <;> omega]
          refine JL_assign rfl ?_
          refine JL_done_up 153 [osl _ _ _ _ _ _, osl _ _ _ _ _ _] [_, _, _, _, _, _, _, _] rfl rfl (by simp only [nrmF]; rfl) rfl rfl ?_
          refine JC_seq ?_
          refine JC_region ?_
          refine JL_move rfl ?_
          refine JL_move rfl ?_
          refine JL_convInt us110 it94 rfl (IntWalk.u32_in _ (by omega)) ?_
          refine JL_build1 sl32 rfl rfl (fun g117 => ?_)
          refine JL_norm _ [osl _ _ _ _ _ _, osl _ _ _ _ _ _, osl _ _ _ _ _ (u32s ([min gq 999999999]))] [_, _, _, _, _, _, _, _] rfl rfl rfl ?_
          refine JL_callF' (Asks.cons (by first | exact holds_of_mem (by repeat (first | with_reducible exact mm0 | refine mmS ?_)) | (exact holds_of_own 0 rfl) | (exact holds_of_own 1 rfl) | (exact holds_of_own 2 rfl)) (Asks.cons (by first | exact holds_of_mem (by repeat (first | with_reducible exact mm0 | refine mmS ?_)) | (exact holds_of_own 0 rfl) | (exact holds_of_own 1 rfl) | (exact holds_of_own 2 rfl)) Asks.nil)) (times_con _ _ _ _ _ _ _ _ _ _ _ rfl DIn.of (DIn.one (by omega)) (by omega) (by omega)) rfl ca86 ⟨rfl, rfl, rfl⟩ ?_
          rintro _ _ ⟨ad118, cap118, rfl, hk118, hm118, rfl⟩
          refine JL_dropAt 2 ?_
          refine JL_norm _ [osl _ _ _ _ _ _, osl _ _ _ _ _ _] [_, _, _, _, _, _, _, _, _] rfl rfl rfl ?_
          refine JL_assign rfl ?_
          refine JL_done_up 153 [osl _ _ _ _ _ _, osl _ _ _ _ _ _] [_, _, _, _, _, _, _, _, _] rfl rfl (by simp only [nrmF]; rfl) rfl rfl ?_
          refine JC_seq ?_
          refine JC_block ?_
          refine JC_loopS ((Nat) × (Option Addr) × (Nat)) (fun (gg, pa, pc) => P / V ≤ gg ∧ gg ≤ 999999999 ∧ (limbsOf (V * gg)).length ≤ pc ∧ pc ≤ 9223372036854775807) (fun (gg, pa, pc) => gg) (fun u (gg, pa, pc) => [none, none, none, none, none, none, none, none, none, none, none, none, none, none, none, some (.int .u64 (gg : Nat)), some (.slice pa (limbsOf (V * gg)).length pc), none, none, none, none, none, none, none, none, none, none, none, none, none, none, none, none, none, none, none, none, none, none, none, none, none, none, none, none, none, none, none, none, none, none, none, none, none, none, none, none, none, none, none, none, none, none, none, none, none, none, none, none, none, none, none, none, none, none, none, none, none, none, none, none, none, none, none, none, none, none, none, none, none, none, none, none, none, none, none, none, none, none, none, none, none, none, none, none, none, none, none, none, none, none, none, none, none, none, none, none, none, none, some (u 119), some (u 120), some (u 121), some (u 122), some (u 123), some (u 124), some (u 125), some (u 126), some (u 127), none, none, none, none, none, none, none, none, none, none, none, none, none, none, none, none, none, none, none, none, none, none, none, none, none]) (fun (gg, pa, pc) => [none, none]) (fun (gg, pa, pc) => [(true, vCells pa (u32s (limbsOf (V * gg))))]) (min gq 999999999, ad118, cap118) (by kernel_rfl) ?_ (by kernel_rfl) ?_ ?_
          · exact ⟨hgg, by omega, hk118, hm118⟩
          · exact (subset_cons (by repeat (first | with_reducible exact mm0 | refine mmS ?_)) subset_nil)
          intro u i hC
          obtain ⟨gg, pa, pc⟩ := i
          obtain ⟨hgg1, hgg9, hpk, hpm⟩ := hC
          refine JC_norm ⟨153, [], [_, _, _, _, _, _, _, _, _, _, _, _, _, _, _, _, _, _, _, _, _, _, _, _, _, _, _, _, _, _, _, _, _, _, _, _, _, _, _, _, _, _, _, _, _, _, _, _, _, _, _, _, _, _, _, _, _, _, _, _, _, _, _, _, _, _, _, _, _, _, _, _, _, _, _, _, _, _, _, _, _, _, _, _, _, _, _, _, _, _, _, _, _, _, _, _, _, _, _, _, _, _, _, _, _, _, _, _, _, _, _, _, _, _, _, _, _, _, _, _, _, _, _, _, _, _, _, _, _, _, _, _, _, _, _, _, _, _, _, _, _, _, _, _, _, _, _, _, _, _, _, _, _]⟩ [osl _ _ _ _ _ _, osl _ _ _ _ _ _] [_, _, _, _, _, _, _, _, _, _] rfl rfl rfl ?_
          have hggl : (limbsOf gg).length ≤ 1 := limbsOf_len_of_lt (by omega)
          have hpl := len_limbsOf_mul V gg
          refine JC_seq ?_
          refine JC_seq ?_
          refine JC_region ?_
          refine JL_move rfl ?_
          refine JL_move rfl ?_
          refine JL_callF' (Asks.cons (by first | exact holds_of_mem (by repeat (first | with_reducible exact mm0 | refine mmS ?_)) | (exact holds_of_own 0 rfl) | (exact holds_of_own 1 rfl)) (Asks.cons (by first | exact holds_of_mem (by repeat (first | with_reducible exact mm0 | refine mmS ?_)) | (exact holds_of_own 0 rfl) | (exact holds_of_own 1 rfl)) Asks.nil)) (compare_con _ _ _ _ _ _ (V * gg) P rfl rfl (by omega) (by omega)) rfl ca83 ⟨rfl, rfl, rfl⟩ ?_
          rintro _ _ ⟨rfl, rfl⟩
          refine JL_gtr rfl rfl ?_
          refine JL_split (fun h122 => ?_) (fun h122 => ?_)
          · have hlt : P < V * gg := cmpN_pos.1 (by omega)
            have hg0 : 0 < gg := Nat.pos_of_ne_zero (fun h0 => by subst h0; omega)
            refine JL_done_up 153 [osl _ _ _ _ _ _, osl _ _ _ _ _ _] [_, _, _, _, _, _, _, _, _, _] rfl rfl (by simp only [nrmF]; rfl) rfl rfl ?_
            refine JC_true rfl ?_
            refine JC_skip ?_
            refine JE_then ?_
            refine JC_block ?_
            refine JC_seq ?_
            refine JC_region ?_
            refine JL_move rfl ?_
            refine JL_sub_to rfl rfl (IntWalk.u64_in _ (by omega)) ?_
            rw [show (((gg : Nat) : Int) - 1 : Int) = ((gg - 1 : Nat) : Int) from by omega]
            refine JL_assign rfl ?_
            refine JL_done_up 153 [osl _ _ _ _ _ _, osl _ _ _ _ _ _] [_, _, _, _, _, _, _, _, _, _] rfl rfl (by simp only [nrmF]; rfl) rfl rfl ?_
            refine JC_region ?_
            refine JL_move rfl ?_
            refine JL_move rfl ?_
            refine JL_callF' (Asks.cons (by first | exact holds_of_mem (by repeat (first | with_reducible exact mm0 | refine mmS ?_)) | (exact holds_of_own 0 rfl) | (exact holds_of_own 1 rfl)) (Asks.cons (by first | exact holds_of_mem (by repeat (first | with_reducible exact mm0 | refine mmS ?_)) | (exact holds_of_own 0 rfl) | (exact holds_of_own 1 rfl)) Asks.nil)) (minus_con _ _ _ _ _ _ (V * gg) V rfl rfl (by omega) (by omega) (V * (gg - 1)) (by rw [Nat.mul_sub, Nat.mul_one]) (Nat.le_mul_of_pos_right _ hg0)) rfl ca91 ⟨rfl, rfl, rfl⟩ ?_
            rintro _ _ ⟨ad127, cap127, rfl, hk127, hm127, rfl⟩
            refine JL_assign rfl ?_
            refine JL_nil_up 153 [osl _ _ _ _ _ _, osl _ _ _ _ _ _] [_, _, _, _, _, _, _, _, _, _, _] rfl rfl (by simp only [nrmF]; rfl) rfl rfl ?_
            refine JE_block_normal ?_
            refine JE_nextS (gg - 1, ad127, cap127) (by kernel_rfl) ?_ ?_ (by kernel_rfl) ?_
            · have hdl : P / V < gg := by rw [Nat.div_lt_iff_lt_mul hV0, Nat.mul_comm]; exact hlt
              exact ⟨by omega, by omega, hk127, hm127⟩
            · first | omega | (dsimp only; omega)
            · exact subset_app (subset_cons (by repeat (first | with_reducible exact mm0 | refine mmS ?_)) subset_nil) (ssS (ssS ss0))
          · have hge : V * gg ≤ P := by have := cmpN_pos (n := V * gg) (m := P); omega
            obtain rfl : gg = P / V := Nat.le_antisymm ((Nat.le_div_iff_mul_le hV0).2 (by rw [Nat.mul_comm]; exact hge)) hgg1
            have hjU : jj - 1 < U.length := by have := limbs_pos (x := P); omega
            have hRV : P - V * (P / V) < V := by have := Nat.mod_lt P hV0; have := Nat.div_add_mod P V; omega
            have hRl := len_limbsOf_le (Nat.le_of_lt hRV)
            refine JL_done_up 153 [osl _ _ _ _ _ _, osl _ _ _ _ _ _] [_, _, _, _, _, _, _, _, _, _] rfl rfl (by simp only [nrmF]; rfl) rfl rfl ?_
            refine JC_false rfl ?_
            refine JC_exit ?_
            refine JE_then_exit ?_
            refine JE_nextS_exit ?_
            refine JE_block_exit ?_
            refine JE_then ?_
            refine JC_seq ?_
            refine JC_region ?_
            refine JL_move rfl ?_
            refine JL_move rfl ?_
            refine JL_move rfl ?_
            refine JL_convInt us110 it94 rfl (u32_nat _ (Nat.lt_of_le_of_lt hgg9 (by decide))) ?_
            have hlq := hI.lq
            refine JL_idx (jj - 1) sl32 rfl rfl (by omega) (by omega) (Reads.own 1 rfl) (by first | (rw [u32s_length]; omega) | (rw [i64s_length]; omega)) ?_
            refine JL_storeU 1 (P / V) ty94 rfl rfl rfl (by omega) (by omega) ?_
            refine JL_done_up 153 [osl _ _ _ _ _ _, osl _ _ _ _ _ _] [_, _, _, _, _, _, _, _, _, _] rfl rfl (by simp only [nrmF]; rfl) rfl rfl ?_
            refine JC_drawT mixed 7 [spV 133 [] _, spV 134 [] _, spV 135 [] _, spV 136 [0, 1, 2] _, spV 137 [] _, spV 138 [] _, spC 139 [4, 5] _] ⟨OblS_V (fun vals ex ψ => (by
                refine JL_move rfl ?_
                exact JL_nil (JE_stepV rfl ss0))), OblS_V (fun vals ex ψ => (by
                refine JL_move rfl ?_
                exact JL_nil (JE_stepV rfl ss0))), OblS_V (fun vals ex ψ => (by
                refine JL_move rfl ?_
                exact JL_nil (JE_stepV rfl ss0))), OblS_V (fun vals ex ψ => (by
                refine JL_normQ _ (_ :: _ :: _ :: _ :: _ :: _ :: _ :: _ :: _ :: _ :: ψ) rfl rfl ?_
                refine JL_slice _ (jj - 1) (jj - 1) sl32 rfl .none (.some rfl (by omega)) (.some rfl (by omega)) (.inr (by simp)) (by omega) (by omega) (by omega) ?_
                exact JL_nil (JE_stepV rfl ss0))), OblS_V (fun vals ex ψ => (by
                refine JL_move rfl ?_
                exact JL_nil (JE_stepV rfl ss0))), OblS_V (fun vals ex ψ => (by
                refine JL_move rfl ?_
                exact JL_nil (JE_stepV rfl ss0))), OblS_C (fun vals ex ψ => (by
                refine JL_normQ ⟨153, [(133, _), (134, _), (135, _), (136, _), (137, _), (138, _), (139, _)], _⟩ (_ :: _ :: _ :: _ :: _ :: _ :: _ :: _ :: _ :: _ :: ψ) rfl rfl ?_
                refine JL_callF' (Asks.cons (by first | exact holds_of_mem (by repeat (first | with_reducible exact mm0 | refine mmS ?_)) | (exact holds_of_own 0 rfl) | (exact holds_of_own 1 rfl)) (Asks.cons (by first | exact holds_of_mem (by repeat (first | with_reducible exact mm0 | refine mmS ?_)) | (exact holds_of_own 0 rfl) | (exact holds_of_own 1 rfl)) Asks.nil)) (minus_con _ _ _ _ _ _ P (V * (P / V)) rfl rfl (by omega) (by omega) _ rfl hge) rfl ca91 ⟨rfl, rfl, rfl⟩ ?_
                exact fun v φo hP => JL_nil (JE_stepC φo rfl hP (fun p hp => mapB_l hp) (fun p hp => mapB_r (ss0 p hp))))), trivial⟩ (by kernel_rfl) (fun vals bs => ?_)
            refine JL_normL [_, _] ⟨153, [(133, _), (134, _), (135, _), (136, _), (137, _), (138, _), (139, _)], _⟩ [osl _ _ _ _ _ _, osl _ _ _ _ _ _] [_, _, _, _, _, _, _, _, _, _, _] rfl rfl rfl rfl ?_
            generalize vals (0 + 1 + 1 + 1 + 1 + 1 + 1) = x139
            refine JL_usePost mm0 (fun φo hP => ?_)
            obtain ⟨ad139, cap139, rfl, hk139, hm139, rfl⟩ := hP
            refine JL_norm _ [osl _ _ _ _ _ _, osl _ _ _ _ _ _] [_, _, _, _, _, _, _, _, _, _, _, _] rfl rfl rfl ?_
            refine JL_viewSub (f := true) (ad := ua) (L := U) (jj - 1) 0 (jj - 1) (by repeat (first | with_reducible exact mm0 | refine mmS ?_)) (Nat.le_refl _) ?_
            rw [List.drop_zero]
            refine JL_appendVU List.mem_cons_self (by first | exact Reads.view (by repeat (first | with_reducible exact mm0 | refine mmS ?_)) | (exact Reads.own 0 rfl) | (exact Reads.own 1 rfl)) sl32 rfl rfl (by rw [List.length_take]; omega) rfl rfl (by omega) (by omega) (fun ad140 cap140 hc140 => ?_)
            refine JL_assign rfl ?_
            refine JL_nil_up 153 [osl _ _ _ _ _ _, osl _ _ _ _ _ _] [_, _, _, _, _, _, _, _, _, _, _, _, _, _] rfl rfl (by simp only [nrmF]; rfl) rfl rfl ?_
            refine JE_block_normal ?_
            refine JE_then ?_
            refine JC_region ?_
            refine JL_move rfl ?_
            refine JL_sub_to rfl rfl (IntWalk.i64_in _ (by omega)) ?_
            rw [show ((jj : Int) - 1 - 1 : Int) = ((jj - 1 : Nat) : Int) - 1 from by omega]
            refine JL_assign rfl ?_
            refine JL_nil_up 153 [osl _ _ _ _ _ _, osl _ _ _ _ _ _] [_, _, _, _, _, _, _, _, _, _, _, _, _, _] rfl rfl (by simp only [nrmF]; rfl) rfl rfl ?_
            refine JE_nextS (jj - 1, ad140, jj - 1 - 0 + (limbsOf (P - V * (P / V))).length, cap140, U.take (jj - 1) ++ limbsOf (P - V * (P / V)), q.set (jj - 1) (P / V)) (by kernel_rfl) ?_ ?_ (by kernel_rfl) ?_
            · exact ⟨by have h := hI1.put (by omega) (by omega) rfl hV0; rw [hP] at h; exact h, by rw [List.length_append, List.length_take]; omega, by omega, by omega, by omega, by omega⟩
            · first | omega | (dsimp only; omega)
            · exact subset_app (subset_cons (by repeat (first | with_reducible exact mm0 | refine mmS ?_)) subset_nil) (ssS (ssS (ssS (ssS (ssS (ssS (ssS (ssS (ssS (ssS ss0))))))))))
      · obtain rfl : jj = 0 := by omega
        refine JL_done_up 153 [osl _ _ _ _ _ _, osl _ _ _ _ _ _] [_, _, _, _, _] rfl rfl (by simp only [nrmF]; rfl) rfl rfl ?_
        refine JC_false rfl ?_
        refine JC_exit ?_
        refine JE_then_exit ?_
        refine JE_nextS_exit ?_
        refine JE_block_exit ?_
        refine JE_then ?_
        refine JC_seq ?_
        refine JC_drawT mixed 10 [spV 142 [] _, spC 143 [0] _, spV 144 [] _, spV 145 [2] _, spV 146 [3] _, spC 147 [1, 4] _, spC 141 [5] _, spC 148 [6] (LS (n % m)), spC 149 [6] (fun v φo => v = .int .u32 ((val U % sc : Nat) : Int) ∧ φo = []), spC 17 [7] _] ⟨OblS_V (fun vals ex ψ => (by
            refine JL_move rfl ?_
            exact JL_nil (JE_stepV rfl ss0))), OblS_C (fun vals ex ψ => (by
            refine JL_normQ ⟨153, [(142, _), (143, _), (144, _), (145, _), (146, _), (147, _), (141, _), (148, _), (149, _), (17, _)], _⟩ (_ :: _ :: _ :: _ :: _ :: ψ) rfl rfl ?_
            refine JL_callA' true (AsksA.cons (holdsA_of_mem (by repeat (first | with_reducible exact mm0 | refine mmS ?_))) AsksA.nil) (trim_con _ _ _ _ (val U) ⟨hun, hI.du, rfl⟩ (by omega) (by omega)) rfl ca117 ⟨rfl, rfl⟩ ?_
            exact fun v φo hP => JL_nil (JE_stepC φo rfl hP (fun p hp => mapB_l hp) (fun p hp => mapB_r (ss0 p hp))))), OblS_V (fun vals ex ψ => (by
            refine JL_move rfl ?_
            exact JL_nil (JE_stepV rfl ss0))), OblS_V (fun vals ex ψ => (by
            refine JL_normQ _ (_ :: _ :: _ :: _ :: _ :: ψ) rfl rfl ?_
            refine JL_idx 0 sl32 rfl rfl rfl (by omega) (Reads.own 0 rfl) (by exact Nat.one_pos) ?_
            exact JL_nil (JE_stepV rfl ss0))), OblS_V (fun vals ex ψ => (by
            refine JL_normQ _ (_ :: _ :: _ :: _ :: _ :: ψ) rfl rfl ?_
            refine JL_loadE ty94 rfl (Reads.own 0 rfl) rfl ?_
            exact JL_nil (JE_stepV rfl ss0))), OblS_C (fun vals ex ψ => (by
            refine JL_normQ ⟨153, [(142, _), (143, _), (144, _), (145, _), (146, _), (147, _), (141, _), (148, _), (149, _), (17, _)], _⟩ (_ :: _ :: _ :: _ :: _ :: _ :: ψ) rfl rfl ?_
            generalize vals 1 = x143
            refine JL_usePost mm0 (fun φo hP => ?_)
            obtain ⟨ad143, cap143, rfl, hk143, hm143, rfl⟩ := hP
            refine JL_norm _ _ (_ :: _ :: _ :: _ :: _ :: _ :: _ :: ψ) rfl rfl rfl ?_
            refine JL_callF' (Asks.cons (by first | exact holds_of_mem (by repeat (first | with_reducible exact mm0 | refine mmS ?_)) | (exact holds_of_own 0 rfl) | (exact holds_of_own 1 rfl)) Asks.nil) (short_con _ _ _ _ (val U) sc DIn.of hs0 (by omega) (by have := len_limbsOf_dig hI.du; omega)) rfl ca135 ⟨rfl, rfl, rfl⟩ ?_
            exact fun v φo hP => JL_nil (JE_stepC φo rfl hP (fun p hp => mapB_l hp) (fun p hp => mapB_r ((ssS ss0) p hp))))), OblS_C (fun vals ex ψ => (by
            refine JL_normQ ⟨153, [(142, _), (143, _), (144, _), (145, _), (146, _), (147, _), (141, _), (148, _), (149, _), (17, _)], _⟩ (_ :: _ :: _ :: _ :: _ :: _ :: ψ) rfl rfl ?_
            generalize vals 5 = x147
            refine JL_usePost mm0 (fun φo hP => ?_)
            refine JL_move rfl ?_
            exact JL_nil (JE_stepC φo rfl hP (fun p hp => List.mem_append_left _ (List.mem_map.2 ⟨p, hp, rfl⟩)) (fun p hp => List.mem_append_right _ hp)))), OblS_C (fun vals ex ψ => (by
            refine JL_normQ ⟨153, [(142, _), (143, _), (144, _), (145, _), (146, _), (147, _), (141, _), (148, _), (149, _), (17, _)], _⟩ (_ :: _ :: _ :: _ :: _ :: _ :: ψ) rfl rfl ?_
            generalize vals 6 = x141
            refine JL_usePost mm0 (fun φo hP => ?_)
            obtain ⟨ad141, cap141, rfl, hk141, hm141, rfl⟩ := hP
            refine JL_norm _ _ (_ :: _ :: _ :: _ :: _ :: _ :: _ :: ψ) rfl rfl rfl ?_
            have hrem : val U / sc = n % m := by rw [hI.done.2, ← hN, ← hV, mul_mod_scale hs0]
            rw [hrem] at hk141
            rw [hrem]
            refine JL_extract rfl rfl ?_
            exact JL_nil (JE_stepC [vCells ad141 (u32s (limbsOf (n % m)))] rfl ⟨ad141, cap141, rfl, hk141, hm141, rfl⟩ (all_cons (by repeat (first | with_reducible exact mm0 | refine mmS ?_)) all_nil) (ssS ss0)))), OblS_C (fun vals ex ψ => (by
            refine JL_normQ ⟨153, [(142, _), (143, _), (144, _), (145, _), (146, _), (147, _), (141, _), (148, _), (149, _), (17, _)], _⟩ (_ :: _ :: _ :: _ :: _ :: _ :: ψ) rfl rfl ?_
            generalize vals 6 = x141
            refine JL_usePost mm0 (fun φo hP => ?_)
            obtain ⟨ad141, cap141, rfl, hk141, hm141, rfl⟩ := hP
            refine JL_norm _ _ (_ :: _ :: _ :: _ :: _ :: _ :: _ :: ψ) rfl rfl rfl ?_
            refine JL_extract rfl rfl ?_
            exact JL_nil (JE_stepC [] rfl ⟨rfl, rfl⟩ all_nil (ssS ss0)))), OblS_C (fun vals ex ψ => (by
            refine JL_normQ ⟨153, [(142, _), (143, _), (144, _), (145, _), (146, _), (147, _), (141, _), (148, _), (149, _), (17, _)], _⟩ (_ :: _ :: _ :: _ :: _ :: _ :: ψ) rfl rfl ?_
            generalize vals 7 = x148
            refine JL_usePost mm0 (fun φo hP => ?_)
            refine JL_assign rfl ?_
            exact JL_nil (JE_stepC φo rfl hP (fun p hp => List.mem_append_left _ (List.mem_map.2 ⟨p, hp, rfl⟩)) (fun p hp => List.mem_append_right _ hp)))), trivial⟩ (by kernel_rfl) (fun vals bs => ?_)
        refine JL_normL [_] ⟨153, [(142, _), (143, _), (144, _), (145, _), (146, _), (147, _), (141, _), (148, _), (149, _), (17, _)], _⟩ [osl _ _ _ _ _ _, osl _ _ _ _ _ _] [_, _, _, _, _, _, _, _, _, _, _] rfl rfl rfl rfl ?_
        generalize vals (0 + 1) = x143
        generalize vals (0 + 1 + 1 + 1 + 1 + 1) = x147
        generalize vals (0 + 1 + 1 + 1 + 1 + 1 + 1) = x141
        generalize vals (0 + 1 + 1 + 1 + 1 + 1 + 1 + 1) = x148
        generalize vals (0 + 1 + 1 + 1 + 1 + 1 + 1 + 1 + 1) = x149
        generalize vals (0 + 1 + 1 + 1 + 1 + 1 + 1 + 1 + 1 + 1) = x17
        refine JL_usePost (mmS (mmS (mmS (mmS mm0)))) (fun φo hP => ?_)
        obtain ⟨rfl, rfl⟩ := hP
        refine JL_norm _ [osl _ _ _ _ _ _, osl _ _ _ _ _ _] [_, _, _, _, _, _, _, _, _, _, _] rfl rfl rfl ?_
        refine JL_usePost (mmS (mmS (mmS (mmS (mmS mm0))))) (fun φo hP => ?_)
        obtain ⟨ad17, cap17, rfl, hk17, hm17, rfl⟩ := hP
        refine JL_norm _ [osl _ _ _ _ _ _, osl _ _ _ _ _ _] [_, _, _, _, _, _, _, _, _, _, _, _] rfl rfl rfl ?_
        refine JL_assign rfl ?_
        refine JL_done_up 153 [osl _ _ _ _ _ _, osl _ _ _ _ _ _] [_, _, _, _, _, _, _, _, _, _, _, _] rfl rfl (by simp only [nrmF]; rfl) rfl rfl ?_
        refine JC_seq ?_
        refine JC_region ?_
        refine JL_move rfl ?_
        refine JL_give 1 rfl ?_
        refine JL_norm _ [osl _ _ _ _ _ _] [_, _, _, _, _, _, _, _, _, _, _, _, _] rfl rfl rfl ?_
        refine JL_callA' true (AsksA.cons (holdsA_of_mem (by repeat (first | with_reducible exact mm0 | refine mmS ?_))) AsksA.nil) (trim_con _ _ _ _ (n / m) ⟨hI.lq, hI.dq, by rw [hI.done.1, ← hN, ← hV, mul_div_scale hs0]⟩ (by omega) (by omega)) rfl ca117 ⟨rfl, rfl⟩ ?_
        rintro _ _ ⟨ad151, cap151, rfl, hk151, hm151, rfl⟩
        refine JL_move rfl ?_
        refine JL_assign rfl ?_
        refine JL_assign rfl ?_
        refine JL_done_up 153 [osl _ _ _ _ _ _] [_, _, _, _, _, _, _, _, _, _, _, _, _, _] rfl rfl (by simp only [nrmF]; rfl) rfl rfl ?_
        refine JC_ret ?_
        refine JE_ret (vs := [_, _]) [vCells ad151 (u32s (limbsOf (n / m))), vCells ad17 (u32s (limbsOf (n % m)))] Tryz.results118 ⟨rfl, rfl, rfl⟩ ?_ ?_
        · exact ⟨ad151, cap151, ad17, cap17, rfl, hk151, hm151, hk17, hm17, rfl⟩
        · exact (all_cons (by repeat (first | with_reducible exact mm0 | refine mmS ?_)) (all_cons (by repeat (first | with_reducible exact mm0 | refine mmS ?_)) all_nil))

theorem nat_cmp_con (ad1 : Option Addr) (n1 c1 : Nat) (L1 : List Nat) (x1 : Nat) (g1 : NIn n1 L1 x1 100000000) (ad2 : Option Addr) (n2 c2 : Nat) (L2 : List Nat) (x2 : Nat) (g2 : NIn n2 L2 x2 100000000) :
    ConF Tryz.prog 58 [.agg #[.slice ad1 n1 c1], .agg #[.slice ad2 n2 c2]] [vCells ad1 (u32s L1), vCells ad2 (u32s L2)]
      (fun v φo => v = .int .i64 (cmpN x1 x2) ∧ φo = []) := by
  have hs1 := g1.sz
  have hl1 := g1.le
  have hs2 := g2.sz
  have hl2 := g2.le
  refine ConF_of Tryz.func58 rfl 10 _ rfl rfl ?_
  intro w0
  refine JC_norm ⟨10, [], [_, _, _, _, _, _, _, _, _, _]⟩ [] [_, _] rfl rfl rfl ?_
  refine JC_seq ?_
  refine JC_region ?_
  refine JL_box rfl rfl (fun b2 => ?_)
  refine JL_box rfl rfl (fun b3 => ?_)
  refine JL_assign rfl ?_
  refine JL_done_up 10 [box _ _ [_], box _ _ [_]] [_, _] rfl rfl (by simp only [nrmF]; rfl) rfl rfl ?_
  refine JC_seq ?_
  refine JC_drawT mixed 3 [spV 5 [] _, spC 6 [0] _, spV 7 [] _] ⟨OblS_V (fun vals ex ψ => (by
      refine JL_normQ _ (_ :: _ :: ψ) rfl rfl ?_
      refine JL_loadA (vs := [_]) 0 ty34 rfl rfl ⟨rfl, trivial⟩ ?_
      exact JL_nil (JE_stepV rfl ss0))), OblS_C (fun vals ex ψ => (by
      refine JL_normQ ⟨10, [(5, _), (6, _), (7, _)], _⟩ (_ :: _ :: ψ) rfl rfl ?_
      refine JL_callF' (Asks.cons (holds_of_mem (by repeat (first | with_reducible exact mm0 | refine mmS ?_))) Asks.nil) (limbs_con _ _ _ _ _ g1) rfl ca84 ⟨rfl, rfl⟩ ?_
      exact fun v φo hP => JL_nil (JE_stepC φo rfl hP (fun p hp => mapB_l hp) (fun p hp => mapB_r (ss0 p hp))))), OblS_V (fun vals ex ψ => (by
      refine JL_normQ _ (_ :: _ :: ψ) rfl rfl ?_
      refine JL_loadA (vs := [_]) 1 ty34 rfl rfl ⟨rfl, trivial⟩ ?_
      exact JL_nil (JE_stepV rfl ss0))), trivial⟩ (by kernel_rfl) (fun vals bs => ?_)
  refine JL_normL [_, _, _] ⟨10, [(5, _), (6, _), (7, _)], _⟩ [box _ _ [_], box _ _ [_]] [_, _, _] rfl rfl rfl rfl ?_
  generalize vals (0 + 1) = x6
  refine JL_usePost mm0 (fun φo hP => ?_)
  obtain ⟨ad6, cap6, rfl, hk6, hm6, rfl⟩ := hP
  refine JL_norm _ [box _ _ [_], box _ _ [_]] [_, _, _, _] rfl rfl rfl ?_
  refine JL_callF' (Asks.cons (holds_of_mem (by repeat (first | with_reducible exact mm0 | refine mmS ?_))) Asks.nil) (limbs_con _ _ _ _ _ g2) rfl ca84 ⟨rfl, rfl⟩ ?_
  rintro _ _ ⟨ad8, cap8, rfl, hk8, hm8, rfl⟩
  refine JL_callF' (Asks.cons (holds_of_mem (by repeat (first | with_reducible exact mm0 | refine mmS ?_))) (Asks.cons (holds_of_mem (by repeat (first | with_reducible exact mm0 | refine mmS ?_))) Asks.nil)) (compare_con _ _ _ _ _ _ _ _ rfl rfl (by omega) (by omega)) rfl ca83 ⟨rfl, rfl, rfl⟩ ?_
  rintro _ _ ⟨rfl, rfl⟩
  refine JL_assign rfl ?_
  refine JL_done_up 10 [box _ _ [_], box _ _ [_]] [_, _, _, _, _] rfl rfl (by simp only [nrmF]; rfl) rfl rfl ?_
  refine JC_ret ?_
  refine JE_ret (vs := [_]) [] Tryz.results58 ⟨rfl, rfl⟩ ?_ ?_
  · exact ⟨rfl, rfl⟩
  · exact all_nil

theorem nat_add_con (ad1 : Option Addr) (n1 c1 : Nat) (L1 : List Nat) (x1 : Nat) (g1 : NIn n1 L1 x1 100000000) (ad2 : Option Addr) (n2 c2 : Nat) (L2 : List Nat) (x2 : Nat) (g2 : NIn n2 L2 x2 100000000) :
    ConF Tryz.prog 62 [.agg #[.slice ad1 n1 c1], .agg #[.slice ad2 n2 c2]] [vCells ad1 (u32s L1), vCells ad2 (u32s L2)]
      (LN (x1 + x2)) := by
  have hs1 := g1.sz
  have hl1 := g1.le
  have hs2 := g2.sz
  have hl2 := g2.le
  have hsz := len_limbsOf_add x1 x2
  refine ConF_of Tryz.func62 rfl 11 _ rfl rfl ?_
  intro w0
  refine JC_norm ⟨11, [], [_, _, _, _, _, _, _, _, _, _, _]⟩ [] [_, _] rfl rfl rfl ?_
  refine JC_seq ?_
  refine JC_region ?_
  refine JL_box rfl rfl (fun b2 => ?_)
  refine JL_box rfl rfl (fun b3 => ?_)
  refine JL_alloc z34 (fun b4 => ?_)
  refine JL_done_up 11 [box _ _ [_], box _ _ [_], box _ _ [_]] [_, _] rfl rfl (by simp only [nrmF]; rfl) rfl rfl ?_
  refine JC_seq ?_
  refine JC_drawT mixed 3 [spV 5 [] _, spC 6 [0] _, spV 7 [] _] ⟨OblS_V (fun vals ex ψ => (by
      refine JL_normQ _ (_ :: _ :: ψ) rfl rfl ?_
      refine JL_loadA (vs := [_]) 0 ty34 rfl rfl ⟨rfl, trivial⟩ ?_
      exact JL_nil (JE_stepV rfl ss0))), OblS_C (fun vals ex ψ => (by
      refine JL_normQ ⟨11, [(5, _), (6, _), (7, _)], _⟩ (_ :: _ :: ψ) rfl rfl ?_
      refine JL_callF' (Asks.cons (holds_of_mem (by repeat (first | with_reducible exact mm0 | refine mmS ?_))) Asks.nil) (limbs_con _ _ _ _ _ g1) rfl ca84 ⟨rfl, rfl⟩ ?_
      exact fun v φo hP => JL_nil (JE_stepC φo rfl hP (fun p hp => mapB_l hp) (fun p hp => mapB_r (ss0 p hp))))), OblS_V (fun vals ex ψ => (by
      refine JL_normQ _ (_ :: _ :: ψ) rfl rfl ?_
      refine JL_loadA (vs := [_]) 1 ty34 rfl rfl ⟨rfl, trivial⟩ ?_
      exact JL_nil (JE_stepV rfl ss0))), trivial⟩ (by kernel_rfl) (fun vals bs => ?_)
  refine JL_normL [_, _, _, _] ⟨11, [(5, _), (6, _), (7, _)], _⟩ [box _ _ [_], box _ _ [_], box _ _ [_]] [_, _, _] rfl rfl rfl rfl ?_
  generalize vals (0 + 1) = x6
  refine JL_usePost mm0 (fun φo hP => ?_)
  obtain ⟨ad6, cap6, rfl, hk6, hm6, rfl⟩ := hP
  refine JL_norm _ [box _ _ [_], box _ _ [_], box _ _ [_]] [_, _, _, _] rfl rfl rfl ?_
  refine JL_callF' (Asks.cons (holds_of_mem (by repeat (first | with_reducible exact mm0 | refine mmS ?_))) Asks.nil) (limbs_con _ _ _ _ _ g2) rfl ca84 ⟨rfl, rfl⟩ ?_
  rintro _ _ ⟨ad8, cap8, rfl, hk8, hm8, rfl⟩
  refine JL_callF' (Asks.cons (holds_of_mem (by repeat (first | with_reducible exact mm0 | refine mmS ?_))) (Asks.cons (holds_of_mem (by repeat (first | with_reducible exact mm0 | refine mmS ?_))) Asks.nil)) (plus_con _ _ _ _ _ _ _ _ rfl rfl (by omega) (by omega)) rfl ca90 ⟨rfl, rfl, rfl⟩ ?_
  rintro _ _ ⟨ad9, cap9, rfl, hk9, hm9, rfl⟩
  refine JL_callA' true (AsksA.cons (holdsA_of_mem (by repeat (first | with_reducible exact mm0 | refine mmS ?_))) AsksA.nil) (made_con _ _ _ _ _ DIn.of (by omega) (by omega)) rfl ca85 ⟨rfl, rfl⟩ ?_
  rintro _ _ ⟨ad10, cap10, rfl, hk10, hm10, rfl⟩
  refine JL_store (vs := [_]) 2 ty34 rfl rfl rfl (AllOne.cons rfl AllOne.nil) rfl (Nat.le_of_ble_eq_true rfl) ?_
  refine JL_done_up 11 [box _ _ [_], box _ _ [_], box _ _ [_]] [_, _, _, _, _, _, _] rfl rfl (by simp only [nrmF]; rfl) rfl rfl ?_
  refine JC_ret ?_
  refine JE_ret (vs := [_]) [vCells ad10 (u32s (limbsOf (x1 + x2)))] Tryz.results62 ⟨RV.cell (vs := [_]) 2 ty34 rfl rfl ⟨rfl, trivial⟩, rfl⟩ ?_ ?_
  · exact ⟨ad10, cap10, rfl, hk10, hm10, rfl⟩
  · exact (all_cons (by repeat (first | with_reducible exact mm0 | refine mmS ?_)) all_nil)

theorem nat_mul_con (ad1 : Option Addr) (n1 c1 : Nat) (L1 : List Nat) (x1 : Nat) (g1 : NIn n1 L1 x1 100000000) (ad2 : Option Addr) (n2 c2 : Nat) (L2 : List Nat) (x2 : Nat) (g2 : NIn n2 L2 x2 100000000) :
    ConF Tryz.prog 59 [.agg #[.slice ad1 n1 c1], .agg #[.slice ad2 n2 c2]] [vCells ad1 (u32s L1), vCells ad2 (u32s L2)]
      (LN (x1 * x2)) := by
  have hs1 := g1.sz
  have hl1 := g1.le
  have hs2 := g2.sz
  have hl2 := g2.le
  have hsz := len_limbsOf_mul x1 x2
  refine ConF_of Tryz.func59 rfl 11 _ rfl rfl ?_
  intro w0
  refine JC_norm ⟨11, [], [_, _, _, _, _, _, _, _, _, _, _]⟩ [] [_, _] rfl rfl rfl ?_
  refine JC_seq ?_
  refine JC_region ?_
  refine JL_box rfl rfl (fun b2 => ?_)
  refine JL_box rfl rfl (fun b3 => ?_)
  refine JL_alloc z34 (fun b4 => ?_)
  refine JL_done_up 11 [box _ _ [_], box _ _ [_], box _ _ [_]] [_, _] rfl rfl (by simp only [nrmF]; rfl) rfl rfl ?_
  refine JC_seq ?_
  refine JC_drawT mixed 3 [spV 5 [] _, spC 6 [0] _, spV 7 [] _] ⟨OblS_V (fun vals ex ψ => (by
      refine JL_normQ _ (_ :: _ :: ψ) rfl rfl ?_
      refine JL_loadA (vs := [_]) 0 ty34 rfl rfl ⟨rfl, trivial⟩ ?_
      exact JL_nil (JE_stepV rfl ss0))), OblS_C (fun vals ex ψ => (by
      refine JL_normQ ⟨11, [(5, _), (6, _), (7, _)], _⟩ (_ :: _ :: ψ) rfl rfl ?_
      refine JL_callF' (Asks.cons (holds_of_mem (by repeat (first | with_reducible exact mm0 | refine mmS ?_))) Asks.nil) (limbs_con _ _ _ _ _ g1) rfl ca84 ⟨rfl, rfl⟩ ?_
      exact fun v φo hP => JL_nil (JE_stepC φo rfl hP (fun p hp => mapB_l hp) (fun p hp => mapB_r (ss0 p hp))))), OblS_V (fun vals ex ψ => (by
      refine JL_normQ _ (_ :: _ :: ψ) rfl rfl ?_
      refine JL_loadA (vs := [_]) 1 ty34 rfl rfl ⟨rfl, trivial⟩ ?_
      exact JL_nil (JE_stepV rfl ss0))), trivial⟩ (by kernel_rfl) (fun vals bs => ?_)
  refine JL_normL [_, _, _, _] ⟨11, [(5, _), (6, _), (7, _)], _⟩ [box _ _ [_], box _ _ [_], box _ _ [_]] [_, _, _] rfl rfl rfl rfl ?_
  generalize vals (0 + 1) = x6
  refine JL_usePost mm0 (fun φo hP => ?_)
  obtain ⟨ad6, cap6, rfl, hk6, hm6, rfl⟩ := hP
  refine JL_norm _ [box _ _ [_], box _ _ [_], box _ _ [_]] [_, _, _, _] rfl rfl rfl ?_
  refine JL_callF' (Asks.cons (holds_of_mem (by repeat (first | with_reducible exact mm0 | refine mmS ?_))) Asks.nil) (limbs_con _ _ _ _ _ g2) rfl ca84 ⟨rfl, rfl⟩ ?_
  rintro _ _ ⟨ad8, cap8, rfl, hk8, hm8, rfl⟩
  refine JL_callF' (Asks.cons (holds_of_mem (by repeat (first | with_reducible exact mm0 | refine mmS ?_))) (Asks.cons (holds_of_mem (by repeat (first | with_reducible exact mm0 | refine mmS ?_))) Asks.nil)) (times_con _ _ _ _ _ _ _ _ _ _ _ rfl DIn.of DIn.of (by omega) (by omega)) rfl ca86 ⟨rfl, rfl, rfl⟩ ?_
  rintro _ _ ⟨ad9, cap9, rfl, hk9, hm9, rfl⟩
  refine JL_callA' true (AsksA.cons (holdsA_of_mem (by repeat (first | with_reducible exact mm0 | refine mmS ?_))) AsksA.nil) (made_con _ _ _ _ _ DIn.of (by omega) (by omega)) rfl ca85 ⟨rfl, rfl⟩ ?_
  rintro _ _ ⟨ad10, cap10, rfl, hk10, hm10, rfl⟩
  refine JL_store (vs := [_]) 2 ty34 rfl rfl rfl (AllOne.cons rfl AllOne.nil) rfl (Nat.le_of_ble_eq_true rfl) ?_
  refine JL_done_up 11 [box _ _ [_], box _ _ [_], box _ _ [_]] [_, _, _, _, _, _, _] rfl rfl (by simp only [nrmF]; rfl) rfl rfl ?_
  refine JC_ret ?_
  refine JE_ret (vs := [_]) [vCells ad10 (u32s (limbsOf (x1 * x2)))] Tryz.results59 ⟨RV.cell (vs := [_]) 2 ty34 rfl rfl ⟨rfl, trivial⟩, rfl⟩ ?_ ?_
  · exact ⟨ad10, cap10, rfl, hk10, hm10, rfl⟩
  · exact (all_cons (by repeat (first | with_reducible exact mm0 | refine mmS ?_)) all_nil)

theorem nat_sub_con (ad1 : Option Addr) (n1 c1 : Nat) (L1 : List Nat) (x1 : Nat) (g1 : NIn n1 L1 x1 100000000) (ad2 : Option Addr) (n2 c2 : Nat) (L2 : List Nat) (x2 : Nat) (g2 : NIn n2 L2 x2 100000000) :
    ConF Tryz.prog 63 [.agg #[.slice ad1 n1 c1], .agg #[.slice ad2 n2 c2]] [vCells ad1 (u32s L1), vCells ad2 (u32s L2)]
      (LNE (x1 - x2) (if x1 < x2 then 2 else 0)) := by
  have hs1 := g1.sz
  have hl1 := g1.le
  have hs2 := g2.sz
  have hl2 := g2.le
  refine ConF_of Tryz.func63 rfl 21 _ rfl rfl ?_
  intro w0
  refine JC_norm ⟨21, [], [_, _, _, _, _, _, _, _, _, _, _, _, _, _, _, _, _, _, _, _, _]⟩ [] [_, _] rfl rfl rfl ?_
  refine JC_seq ?_
  refine JC_region ?_
  refine JL_box rfl rfl (fun b2 => ?_)
  refine JL_box rfl rfl (fun b3 => ?_)
  refine JL_alloc z34 (fun b4 => ?_)
  refine JL_assign rfl ?_
  refine JL_done_up 21 [box _ _ [_], box _ _ [_], box _ _ [_]] [_, _] rfl rfl (by simp only [nrmF]; rfl) rfl rfl ?_
  refine JC_seq ?_
  refine JC_drawT mixed 3 [spV 8 [] _, spC 9 [0] _, spV 10 [] _] ⟨OblS_V (fun vals ex ψ => (by
      refine JL_normQ _ (_ :: _ :: ψ) rfl rfl ?_
      refine JL_loadA (vs := [_]) 0 ty34 rfl rfl ⟨rfl, trivial⟩ ?_
      exact JL_nil (JE_stepV rfl ss0))), OblS_C (fun vals ex ψ => (by
      refine JL_normQ ⟨21, [(8, _), (9, _), (10, _)], _⟩ (_ :: _ :: ψ) rfl rfl ?_
      refine JL_callF' (Asks.cons (holds_of_mem (by repeat (first | with_reducible exact mm0 | refine mmS ?_))) Asks.nil) (limbs_con _ _ _ _ _ g1) rfl ca84 ⟨rfl, rfl⟩ ?_
      exact fun v φo hP => JL_nil (JE_stepC φo rfl hP (fun p hp => mapB_l hp) (fun p hp => mapB_r (ss0 p hp))))), OblS_V (fun vals ex ψ => (by
      refine JL_normQ _ (_ :: _ :: ψ) rfl rfl ?_
      refine JL_loadA (vs := [_]) 1 ty34 rfl rfl ⟨rfl, trivial⟩ ?_
      exact JL_nil (JE_stepV rfl ss0))), trivial⟩ (by kernel_rfl) (fun vals bs => ?_)
  refine JL_normL [_, _, _] ⟨21, [(8, _), (9, _), (10, _)], _⟩ [box _ _ [_], box _ _ [_], box _ _ [_]] [_, _, _] rfl rfl rfl rfl ?_
  generalize vals (0 + 1) = x9
  refine JL_usePost mm0 (fun φo hP => ?_)
  obtain ⟨ad9, cap9, rfl, hk9, hm9, rfl⟩ := hP
  refine JL_norm _ [box _ _ [_], box _ _ [_], box _ _ [_]] [_, _, _, _] rfl rfl rfl ?_
  refine JL_callF' (Asks.cons (holds_of_mem (by repeat (first | with_reducible exact mm0 | refine mmS ?_))) Asks.nil) (limbs_con _ _ _ _ _ g2) rfl ca84 ⟨rfl, rfl⟩ ?_
  rintro _ _ ⟨ad11, cap11, rfl, hk11, hm11, rfl⟩
  refine JL_assign rfl ?_
  refine JL_assign rfl ?_
  refine JL_done_up 21 [box _ _ [_], box _ _ [_], box _ _ [_]] [_, _, _, _, _] rfl rfl (by simp only [nrmF]; rfl) rfl rfl ?_
  refine JC_seq ?_
  refine JC_seq ?_
  refine JC_region ?_
  refine JL_move rfl ?_
  refine JL_move rfl ?_
  refine JL_callF' (Asks.cons (holds_of_mem (by repeat (first | with_reducible exact mm0 | refine mmS ?_))) (Asks.cons (holds_of_mem (by repeat (first | with_reducible exact mm0 | refine mmS ?_))) Asks.nil)) (compare_con _ _ _ _ _ _ _ _ rfl rfl (by omega) (by omega)) rfl ca83 ⟨rfl, rfl, rfl⟩ ?_
  rintro _ _ ⟨rfl, rfl⟩
  refine JL_lss rfl rfl ?_
  refine JL_split (fun h15 => ?_) (fun h15 => ?_)
  · refine JL_done_up 21 [box _ _ [_], box _ _ [_], box _ _ [_]] [_, _, _, _, _] rfl rfl (by simp only [nrmF]; rfl) rfl rfl ?_
    refine JC_true rfl ?_
    refine JC_seq ?_
    refine JC_region ?_
    refine JL_build (cs := [_]) [] st34 rfl rfl ?_
    refine JL_store (vs := [_]) 2 ty34 rfl rfl rfl (AllOne.cons rfl AllOne.nil) rfl (Nat.le_of_ble_eq_true rfl) ?_
    refine JL_assign rfl ?_
    refine JL_done_up 21 [box _ _ [_], box _ _ [_], box _ _ [_]] [_, _, _, _, _] rfl rfl (by simp only [nrmF]; rfl) rfl rfl ?_
    refine JC_ret ?_
    refine JE_then_ret ?_
    have hlt : x1 < x2 := cmpN_neg.1 h15
    have hz : x1 - x2 = 0 := by omega
    refine JE_nilView ?_
    refine JE_ret (vs := [_, _]) [vCells none (u32s [])] Tryz.results63 ⟨RV.cell (vs := [_]) 2 ty34 rfl rfl ⟨rfl, trivial⟩, rfl, rfl⟩ ?_ ?_
    · exact ⟨none, 0, by rw [hz, limbsOf_zero, if_pos hlt]; rfl, by rw [hz, limbsOf_zero]; exact Nat.le_refl _, by omega, by rw [hz, limbsOf_zero]⟩
    · exact (all_cons (by repeat (first | with_reducible exact mm0 | refine mmS ?_)) all_nil)
  · refine JL_done_up 21 [box _ _ [_], box _ _ [_], box _ _ [_]] [_, _, _, _, _] rfl rfl (by simp only [nrmF]; rfl) rfl rfl ?_
    refine JC_false rfl ?_
    refine JC_skip ?_
    refine JE_then ?_
    refine JC_seq ?_
    refine JC_region ?_
    refine JL_move rfl ?_
    refine JL_move rfl ?_
    have hle : x2 ≤ x1 := by have := cmpN_neg (n := x1) (m := x2); omega
    refine JL_callF' (Asks.cons (holds_of_mem (by repeat (first | with_reducible exact mm0 | refine mmS ?_))) (Asks.cons (holds_of_mem (by repeat (first | with_reducible exact mm0 | refine mmS ?_))) Asks.nil)) (minus_con _ _ _ _ _ _ _ _ rfl rfl (by omega) (by omega) _ rfl hle) rfl ca91 ⟨rfl, rfl, rfl⟩ ?_
    rintro _ _ ⟨ad19, cap19, rfl, hk19, hm19, rfl⟩
    refine JL_callA' true (AsksA.cons (holdsA_of_mem (by repeat (first | with_reducible exact mm0 | refine mmS ?_))) AsksA.nil) (made_con _ _ _ _ _ DIn.of (by omega) (by omega)) rfl ca85 ⟨rfl, rfl⟩ ?_
    rintro _ _ ⟨ad20, cap20, rfl, hk20, hm20, rfl⟩
    refine JL_store (vs := [_]) 2 ty34 rfl rfl rfl (AllOne.cons rfl AllOne.nil) rfl (Nat.le_of_ble_eq_true rfl) ?_
    refine JL_assign rfl ?_
    refine JL_done_up 21 [box _ _ [_], box _ _ [_], box _ _ [_]] [_, _, _, _, _, _, _] rfl rfl (by simp only [nrmF]; rfl) rfl rfl ?_
    refine JC_ret ?_
    refine JE_ret (vs := [_, _]) [vCells ad20 (u32s (limbsOf (x1 - x2)))] Tryz.results63 ⟨RV.cell (vs := [_]) 2 ty34 rfl rfl ⟨rfl, trivial⟩, rfl, rfl⟩ ?_ ?_
    · exact ⟨ad20, cap20, by rw [if_neg (by omega)]; rfl, hk20, hm20, rfl⟩
    · exact (all_cons (by repeat (first | with_reducible exact mm0 | refine mmS ?_)) all_nil)

theorem nat_divmod_con (ad1 : Option Addr) (n1 c1 : Nat) (L1 : List Nat) (x1 : Nat) (g1 : NIn n1 L1 x1 100000000) (ad2 : Option Addr) (n2 c2 : Nat) (L2 : List Nat) (x2 : Nat) (g2 : NIn n2 L2 x2 100000000) (hpos : 0 < x2) :
    ConF Tryz.prog 89 [.agg #[.slice ad1 n1 c1], .agg #[.slice ad2 n2 c2]] [vCells ad1 (u32s L1), vCells ad2 (u32s L2)]
      (LN2E (x1 / x2) (x1 % x2) 0) := by
  have hs1 := g1.sz
  have hl1 := g1.le
  have hs2 := g2.sz
  have hl2 := g2.le
  have hlp := limbsOf_len_pos hpos
  refine ConF_of Tryz.func89 rfl 28 _ rfl rfl ?_
  intro w0
  refine JC_norm ⟨28, [], [_, _, _, _, _, _, _, _, _, _, _, _, _, _, _, _, _, _, _, _, _, _, _, _, _, _, _, _]⟩ [] [_, _] rfl rfl rfl ?_
  refine JC_seq ?_
  refine JC_region ?_
  refine JL_box rfl rfl (fun b2 => ?_)
  refine JL_box rfl rfl (fun b3 => ?_)
  refine JL_alloc z34 (fun b4 => ?_)
  refine JL_alloc z34 (fun b5 => ?_)
  refine JL_assign rfl ?_
  refine JL_done_up 28 [box _ _ [_], box _ _ [_], box _ _ [_], box _ _ [_]] [_, _] rfl rfl (by simp only [nrmF]; rfl) rfl rfl ?_
  refine JC_seq ?_
  refine JC_region ?_
  refine JL_loadA (vs := [_]) 1 ty34 rfl rfl ⟨rfl, trivial⟩ ?_
  refine JL_callF' (Asks.cons (holds_of_mem (by repeat (first | with_reducible exact mm0 | refine mmS ?_))) Asks.nil) (limbs_con _ _ _ _ _ g2) rfl ca84 ⟨rfl, rfl⟩ ?_
  rintro _ _ ⟨ad11, cap11, rfl, hk11, hm11, rfl⟩
  refine JL_assign rfl ?_
  refine JL_done_up 28 [box _ _ [_], box _ _ [_], box _ _ [_], box _ _ [_]] [_, _, _] rfl rfl (by simp only [nrmF]; rfl) rfl rfl ?_
  refine JC_seq ?_
  refine JC_seq ?_
  refine JC_region ?_
  refine JL_move rfl ?_
  refine JL_len sl32 rfl ?_
  refine JL_eql rfl rfl ?_
  refine JL_split (fun h14 => ?_) (fun h14 => ?_)
  · exact absurd h14 (by omega)
  · refine JL_done_up 28 [box _ _ [_], box _ _ [_], box _ _ [_], box _ _ [_]] [_, _, _] rfl rfl (by simp only [nrmF]; rfl) rfl rfl ?_
    refine JC_false rfl ?_
    refine JC_skip ?_
    refine JE_then ?_
    refine JC_seq ?_
    refine JC_region ?_
    refine JL_loadA (vs := [_]) 0 ty34 rfl rfl ⟨rfl, trivial⟩ ?_
    refine JL_callF' (Asks.cons (holds_of_mem (by repeat (first | with_reducible exact mm0 | refine mmS ?_))) Asks.nil) (limbs_con _ _ _ _ _ g1) rfl ca84 ⟨rfl, rfl⟩ ?_
    rintro _ _ ⟨ad19, cap19, rfl, hk19, hm19, rfl⟩
    refine JL_move rfl ?_
    refine JL_callA' true (AsksA.cons (holdsA_of_mem (by repeat (first | with_reducible exact mm0 | refine mmS ?_))) (AsksA.cons (holdsA_of_mem (by repeat (first | with_reducible exact mm0 | refine mmS ?_))) AsksA.nil)) (divide_con _ _ _ _ _ _ _ _ rfl rfl (by omega) (by omega) hpos (by omega) (by omega)) rfl ca118 ⟨rfl, rfl, rfl⟩ ?_
    rintro _ _ ⟨ad21, cap21, ae21, caq21, rfl, hk21, hm21, hkq21, hmq21, rfl⟩
    refine JL_move rfl ?_
    refine JL_extract rfl rfl ?_
    refine JL_extract rfl rfl ?_
    refine JL_assign rfl ?_
    refine JL_assign rfl ?_
    refine JL_done_up 28 [box _ _ [_], box _ _ [_], box _ _ [_], box _ _ [_]] [_, _, _, _, _, _] rfl rfl (by simp only [nrmF]; rfl) rfl rfl ?_
    refine JC_seq ?_
    refine JC_region ?_
    refine JL_move rfl ?_
    refine JL_callA' true (AsksA.cons (holdsA_of_mem (by repeat (first | with_reducible exact mm0 | refine mmS ?_))) AsksA.nil) (made_con _ _ _ _ _ DIn.of (by omega) (by omega)) rfl ca85 ⟨rfl, rfl⟩ ?_
    rintro _ _ ⟨ad25, cap25, rfl, hk25, hm25, rfl⟩
    refine JL_move rfl ?_
    refine JL_callA' true (AsksA.cons (holdsA_of_mem (by repeat (first | with_reducible exact mm0 | refine mmS ?_))) AsksA.nil) (made_con _ _ _ _ _ DIn.of (by omega) (by omega)) rfl ca85 ⟨rfl, rfl⟩ ?_
    rintro _ _ ⟨ad27, cap27, rfl, hk27, hm27, rfl⟩
    refine JL_store (vs := [_]) 2 ty34 rfl rfl rfl (AllOne.cons rfl AllOne.nil) rfl (Nat.le_of_ble_eq_true rfl) ?_
    refine JL_store (vs := [_]) 3 ty34 rfl rfl rfl (AllOne.cons rfl AllOne.nil) rfl (Nat.le_of_ble_eq_true rfl) ?_
    refine JL_assign rfl ?_
    refine JL_done_up 28 [box _ _ [_], box _ _ [_], box _ _ [_], box _ _ [_]] [_, _, _, _, _, _, _, _] rfl rfl (by simp only [nrmF]; rfl) rfl rfl ?_
    refine JC_ret ?_
    refine JE_ret (vs := [_, _, _]) [vCells ad25 (u32s (limbsOf (x1 / x2))), vCells ad27 (u32s (limbsOf (x1 % x2)))] Tryz.results89 ⟨RV.cell (vs := [_]) 2 ty34 rfl rfl ⟨rfl, trivial⟩, RV.cell (vs := [_]) 3 ty34 rfl rfl ⟨rfl, trivial⟩, rfl, rfl⟩ ?_ ?_
    · exact ⟨ad25, cap25, ad27, cap27, rfl, hk25, hm25, hk27, hm27, rfl⟩
    · exact (all_cons (by repeat (first | with_reducible exact mm0 | refine mmS ?_)) (all_cons (by repeat (first | with_reducible exact mm0 | refine mmS ?_)) all_nil))

theorem nat_gcd_con (ad1 : Option Addr) (n1 c1 : Nat) (L1 : List Nat) (x1 : Nat) (g1 : NIn n1 L1 x1 100000000) (ad2 : Option Addr) (n2 c2 : Nat) (L2 : List Nat) (x2 : Nat) (g2 : NIn n2 L2 x2 100000000) :
    ConF Tryz.prog 88 [.agg #[.slice ad1 n1 c1], .agg #[.slice ad2 n2 c2]] [vCells ad1 (u32s L1), vCells ad2 (u32s L2)]
      (LN (Nat.gcd x1 x2)) := by
  have hs1 := g1.sz
  have hl1 := g1.le
  have hs2 := g2.sz
  have hl2 := g2.le
  refine ConF_of Tryz.func88 rfl 26 _ rfl rfl ?_
  intro w0
  refine JC_norm ⟨26, [], [_, _, _, _, _, _, _, _, _, _, _, _, _, _, _, _, _, _, _, _, _, _, _, _, _, _]⟩ [] [_, _] rfl rfl rfl ?_
  refine JC_seq ?_
  refine JC_region ?_
  refine JL_box rfl rfl (fun b2 => ?_)
  refine JL_box rfl rfl (fun b3 => ?_)
  refine JL_alloc z34 (fun b4 => ?_)
  refine JL_done_up 26 [box _ _ [_], box _ _ [_], box _ _ [_]] [_, _] rfl rfl (by simp only [nrmF]; rfl) rfl rfl ?_
  refine JC_seq ?_
  refine JC_drawT mixed 3 [spV 9 [] _, spC 10 [0] _, spV 11 [] _] ⟨OblS_V (fun vals ex ψ => (by
      refine JL_normQ _ (_ :: _ :: ψ) rfl rfl ?_
      refine JL_loadA (vs := [_]) 0 ty34 rfl rfl ⟨rfl, trivial⟩ ?_
      exact JL_nil (JE_stepV rfl ss0))), OblS_C (fun vals ex ψ => (by
      refine JL_normQ ⟨26, [(9, _), (10, _), (11, _)], _⟩ (_ :: _ :: ψ) rfl rfl ?_
      refine JL_callF' (Asks.cons (holds_of_mem (by repeat (first | with_reducible exact mm0 | refine mmS ?_))) Asks.nil) (limbs_con _ _ _ _ _ g1) rfl ca84 ⟨rfl, rfl⟩ ?_
      exact fun v φo hP => JL_nil (JE_stepC φo rfl hP (fun p hp => mapB_l hp) (fun p hp => mapB_r (ss0 p hp))))), OblS_V (fun vals ex ψ => (by
      refine JL_normQ _ (_ :: _ :: ψ) rfl rfl ?_
      refine JL_loadA (vs := [_]) 1 ty34 rfl rfl ⟨rfl, trivial⟩ ?_
      exact JL_nil (JE_stepV rfl ss0))), trivial⟩ (by kernel_rfl) (fun vals bs => ?_)
  refine JL_normL [_, _, _] ⟨26, [(9, _), (10, _), (11, _)], _⟩ [box _ _ [_], box _ _ [_], box _ _ [_]] [_, _, _] rfl rfl rfl rfl ?_
  generalize vals (0 + 1) = x10
  refine JL_usePost mm0 (fun φo hP => ?_)
  obtain ⟨ad10, cap10, rfl, hk10, hm10, rfl⟩ := hP
  refine JL_norm _ [box _ _ [_], box _ _ [_], box _ _ [_]] [_, _, _, _] rfl rfl rfl ?_
  refine JL_callF' (Asks.cons (holds_of_mem (by repeat (first | with_reducible exact mm0 | refine mmS ?_))) Asks.nil) (limbs_con _ _ _ _ _ g2) rfl ca84 ⟨rfl, rfl⟩ ?_
  rintro _ _ ⟨ad12, cap12, rfl, hk12, hm12, rfl⟩
  refine JL_assign rfl ?_
  refine JL_assign rfl ?_
  refine JL_done_up 26 [box _ _ [_], box _ _ [_], box _ _ [_]] [_, _, _, _, _] rfl rfl (by simp only [nrmF]; rfl) rfl rfl ?_
  refine JC_seq ?_
  refine JC_block ?_
  refine JC_loopS ((Option Addr) × (Nat) × (Nat) × (Option Addr) × (Nat) × (Nat)) (fun (a1, k1, x, a2, k2, y) => Nat.gcd x y = Nat.gcd x1 x2 ∧ (limbsOf x).length ≤ k1 ∧ k1 ≤ 9223372036854775807 ∧ (limbsOf y).length ≤ k2 ∧ k2 ≤ 9223372036854775807 ∧ (limbsOf x).length ≤ 100000001 ∧ (limbsOf y).length ≤ 100000001) (fun (a1, k1, x, a2, k2, y) => y) (fun u (a1, k1, x, a2, k2, y) => [none, none, none, none, none, some (.slice a1 (limbsOf x).length k1), some (.slice a2 (limbsOf y).length k2), some (u 7), some (u 8), none, none, none, none, some (u 13), some (u 14), some (u 15), some (u 16), some (u 17), some (u 18), some (u 19), some (u 20), some (u 21), some (u 22), some (u 23), none, none]) (fun (a1, k1, x, a2, k2, y) => [none, none, none]) (fun (a1, k1, x, a2, k2, y) => [(true, vCells a1 (u32s (limbsOf x))), (true, vCells a2 (u32s (limbsOf y)))]) (ad10, cap10, x1, ad12, cap12, x2) (by kernel_rfl) ?_ (by kernel_rfl) ?_ ?_
  · exact ⟨rfl, hk10, hm10, hk12, hm12, by omega, by omega⟩
  · exact (subset_cons (by repeat (first | with_reducible exact mm0 | refine mmS ?_)) (subset_cons (by repeat (first | with_reducible exact mm0 | refine mmS ?_)) subset_nil))
  intro u i hC
  obtain ⟨a1, k1, x, a2, k2, y⟩ := i
  obtain ⟨hg, hk1, hm1, hk2, hm2, hb1, hb2⟩ := hC
  refine JC_norm ⟨26, [], [_, _, _, _, _, _, _, _, _, _, _, _, _, _, _, _, _, _, _, _, _, _, _, _, _, _]⟩ [box _ _ [_], box _ _ [_], box _ _ [_]] [_, _, _, _, _, _, _] rfl rfl rfl ?_
  refine JC_seq ?_
  refine JC_seq ?_
  refine JC_region ?_
  refine JL_move rfl ?_
  refine JL_len sl32 rfl ?_
  refine JL_gtr rfl rfl ?_
  refine JL_split (fun h15 => ?_) (fun h15 => ?_)
  · have hy0 : 0 < y := limbs_pos (by omega)
    have hml := len_limbsOf_le (Nat.le_of_lt (Nat.mod_lt x hy0))
    refine JL_done_up 26 [box _ _ [_], box _ _ [_], box _ _ [_]] [_, _, _, _, _, _, _] rfl rfl (by simp only [nrmF]; rfl) rfl rfl ?_
    refine JC_true rfl ?_
    refine JC_skip ?_
    refine JE_then ?_
    refine JC_block ?_
    refine JC_seq ?_
    refine JC_region ?_
    refine JL_move rfl ?_
    refine JL_move rfl ?_
    refine JL_callA' true (AsksA.cons (holdsA_of_mem (by repeat (first | with_reducible exact mm0 | refine mmS ?_))) (AsksA.cons (holdsA_of_mem (by repeat (first | with_reducible exact mm0 | refine mmS ?_))) AsksA.nil)) (divide_con _ _ _ _ _ _ _ _ rfl rfl (by omega) (by omega) hy0 (by omega) (by omega)) rfl ca118 ⟨rfl, rfl, rfl⟩ ?_
    rintro _ _ ⟨ad19, cap19, ae19, caq19, rfl, hk19, hm19, hkq19, hmq19, rfl⟩
    refine JL_move rfl ?_
    refine JL_extract rfl rfl ?_
    refine JL_extract rfl rfl ?_
    refine JL_assign rfl ?_
    refine JL_assign rfl ?_
    refine JL_done_up 26 [box _ _ [_], box _ _ [_], box _ _ [_]] [_, _, _, _, _, _, _, _, _] rfl rfl (by simp only [nrmF]; rfl) rfl rfl ?_
    refine JC_region ?_
    refine JL_move rfl ?_
    refine JL_move rfl ?_
    refine JL_assign rfl ?_
    refine JL_assign rfl ?_
    refine JL_nil_up 26 [box _ _ [_], box _ _ [_], box _ _ [_]] [_, _, _, _, _, _, _, _, _] rfl rfl (by simp only [nrmF]; rfl) rfl rfl ?_
    refine JE_block_normal ?_
    refine JE_nextS (a2, k2, y, ae19, caq19, x % y) (by kernel_rfl) ?_ ?_ (by kernel_rfl) ?_
    · exact ⟨by rw [← hg, Nat.gcd_comm y, ← Nat.gcd_rec, Nat.gcd_comm], hk2, hm2, hkq19, hmq19, hb2, by omega⟩
    · exact Nat.mod_lt x hy0
    · exact subset_app (subset_cons (by repeat (first | with_reducible exact mm0 | refine mmS ?_)) (subset_cons (by repeat (first | with_reducible exact mm0 | refine mmS ?_)) subset_nil)) (ssS (ssS (ssS (ssS ss0))))
  · have hy0 : y = 0 := limbs_zero (by omega)
    have hgx : Nat.gcd x1 x2 = x := by rw [← hg, hy0, Nat.gcd_zero_right]
    refine JL_done_up 26 [box _ _ [_], box _ _ [_], box _ _ [_]] [_, _, _, _, _, _, _] rfl rfl (by simp only [nrmF]; rfl) rfl rfl ?_
    refine JC_false rfl ?_
    refine JC_exit ?_
    refine JE_then_exit ?_
    refine JE_nextS_exit ?_
    refine JE_block_exit ?_
    refine JE_then ?_
    refine JC_seq ?_
    refine JC_region ?_
    refine JL_move rfl ?_
    refine JL_callA' true (AsksA.cons (holdsA_of_mem (by repeat (first | with_reducible exact mm0 | refine mmS ?_))) AsksA.nil) (made_con _ _ _ _ (Nat.gcd x1 x2) ⟨rfl, dig_limbsOf _, by rw [val_limbsOf, hgx]⟩ (by omega) (by omega)) rfl ca85 ⟨rfl, rfl⟩ ?_
    rintro _ _ ⟨ad25, cap25, rfl, hk25, hm25, rfl⟩
    refine JL_store (vs := [_]) 2 ty34 rfl rfl rfl (AllOne.cons rfl AllOne.nil) rfl (Nat.le_of_ble_eq_true rfl) ?_
    refine JL_done_up 26 [box _ _ [_], box _ _ [_], box _ _ [_]] [_, _, _, _, _, _, _, _] rfl rfl (by simp only [nrmF]; rfl) rfl rfl ?_
    refine JC_ret ?_
    refine JE_ret (vs := [_]) [vCells ad25 (u32s (limbsOf (Nat.gcd x1 x2)))] Tryz.results88 ⟨RV.cell (vs := [_]) 2 ty34 rfl rfl ⟨rfl, trivial⟩, rfl⟩ ?_ ?_
    · exact ⟨ad25, cap25, rfl, hk25, hm25, rfl⟩
    · exact (all_cons (by repeat (first | with_reducible exact mm0 | refine mmS ?_)) all_nil)

end Go.Fw.K
