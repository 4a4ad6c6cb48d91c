/- Walks through functions of the given program: each meets its contract. (Printed by a program of this repo.) -/
import Derived.Test.YtgfldmhpindbpaaDoorFwJ
import Derived.Test.YtgfldmhpindbpaaDoorProg
namespace Go.Fw.W1
open Go Go.RowKit Go.Proofs Go.Nat9 Go.Fw
attribute [local irreducible] JC JL JE
theorem ca59 : callable Tryd.prog 59 = true := by kernel_rfl
theorem fo34_0 : fOf Tryd.prog 34 0 = some 0 := by kernel_rfl
theorem it78 : intTy Tryd.prog 78 = some .u64 := by kernel_rfl
theorem it86 : intTy Tryd.prog 86 = some .u32 := by kernel_rfl
theorem mixed : Tryd.prog.follows .mixedOrders = true := by kernel_rfl
theorem sl32 : slOf Tryd.prog 32 = some (86, 1, 4, [.int .u32 0]) := by kernel_rfl
theorem st34 : stOf Tryd.prog 34 = some ([(0, 1)], [.slice none 0 0]) := by kernel_rfl
theorem ty32 : tyOf Tryd.prog 32 = some (false, 1) := by kernel_rfl
theorem ty34 : tyOf Tryd.prog 34 = some (true, 1) := by kernel_rfl
theorem ty86 : tyOf Tryd.prog 86 = some (false, 1) := by kernel_rfl
theorem us78 : (Tryd.prog.underlying 78).isSome = true := by kernel_rfl
theorem us86 : (Tryd.prog.underlying 86).isSome = true := by kernel_rfl
theorem z34 : zeroOf Tryd.prog 34 = some [.slice none 0 0] := by kernel_rfl
end Go.Fw.W1
namespace Go.Fw.K
open Go Go.RowKit Go.Proofs Go.Nat9 Go.Fw Go.Fw.W1
attribute [local irreducible] JC JL JE

theorem trim_con (ad : Option Addr) (n cap : Nat) (L : List Nat) (x : Nat) (g : DIn n L x) (hc : n ≤ cap) (hm : cap ≤ 9223372036854775807) :
    ConA Tryd.prog 59 [.slice ad n cap] [vCells ad (u32s L)]
      (LS x) := by
  obtain ⟨rfl, hd, hv⟩ := g
  refine ConA_of Tryd.func59 rfl 21 _ rfl rfl ?_
  intro w0
  refine JC_norm ⟨21, [], [_, _, _, _, _, _, _, _, _, _, _, _, _, _, _, _, _, _, _, _, _]⟩ [] [_] rfl rfl rfl ?_
  refine JC_seq ?_
  refine JC_region ?_
  refine JL_assign rfl ?_
  refine JL_done_up 21 [] [_] rfl rfl (by simp only [nrmF]; rfl) rfl rfl ?_
  refine JC_seq ?_
  refine JC_block ?_
  refine JC_loopS ((Nat)) (fun (m : Nat) => m ≤ L.length ∧ trimL (L.take m) = trimL L) (fun (m : Nat) => m) (fun u (m : Nat) => [some (.slice ad m cap), none, none, some (u 3), some (u 4), some (u 5), some (u 6), some (u 7), some (u 8), some (u 9), some (u 10), some (u 11), some (u 12), some (u 13), some (u 14), some (u 15), some (u 16), some (u 17), some (u 18), some (u 19), none]) (fun (m : Nat) => []) (fun (m : Nat) => []) (L.length) (by kernel_rfl) ?_ (by kernel_rfl) ?_ ?_
  · exact ⟨Nat.le_refl _, by rw [List.take_length]⟩
  · exact subset_nil
  intro u m hC
  obtain ⟨hmL, hT⟩ := hC
  refine JC_norm ⟨21, [], [_, _, _, _, _, _, _, _, _, _, _, _, _, _, _, _, _, _, _, _, _]⟩ [] [_] rfl rfl rfl ?_
  refine JC_seq ?_
  refine JC_seq ?_
  refine JC_region ?_
  refine JL_move rfl ?_
  refine JL_len sl32 rfl ?_
  refine JL_gtr rfl rfl ?_
  refine JL_split (fun h5 => ?_) (fun h5 => ?_)
  · refine JL_move rfl ?_
    refine JL_guard_yes rfl rfl ?_
    refine JL_move rfl ?_
    refine JL_guard_yes rfl rfl ?_
    refine JL_move rfl ?_
    refine JL_guard_yes rfl rfl ?_
    refine JL_len sl32 rfl ?_
    refine JL_guard_yes rfl rfl ?_
    refine JL_sub_to rfl rfl (IntWalk.i64_in _ (by omega)) ?_
    refine JL_guard_yes rfl rfl ?_
    refine JL_idx (m - 1) sl32 rfl rfl (by omega) (by omega) (by first | exact Reads.view (by repeat (first | with_reducible exact mm0 | refine mmS ?_))) (by first | (rw [u32s_length]; omega) | (rw [i64s_length]; omega)) ?_
    refine JL_guard_yes rfl rfl ?_
    refine JL_loadE ty86 rfl (by first | exact Reads.view (by repeat (first | with_reducible exact mm0 | refine mmS ?_))) (u32s_get (by omega)) ?_
    refine JL_guard_yes rfl rfl ?_
    refine JL_eql rfl rfl ?_
    refine JL_split (fun h13 => ?_) (fun h13 => ?_)
    · refine JL_pick_t rfl rfl ?_
      refine JL_done_up 21 [] [_] rfl rfl (by simp only [nrmF]; rfl) rfl rfl ?_
      refine JC_true rfl ?_
      refine JC_skip ?_
      refine JE_then ?_
      refine JC_block ?_
      refine JC_region ?_
      refine JL_move rfl ?_
      refine JL_move rfl ?_
      refine JL_len sl32 rfl ?_
      refine JL_sub_to rfl rfl (IntWalk.i64_in _ (by omega)) ?_
      refine JL_sliceTo (m - 1) sl32 rfl rfl (by omega) (by omega) ?_
      refine JL_assign rfl ?_
      refine JL_nil_up 21 [] [_] rfl rfl (by simp only [nrmF]; rfl) rfl rfl ?_
      refine JE_block_normal ?_
      refine JE_nextS (m - 1) (by kernel_rfl) ?_ ?_ (by kernel_rfl) ?_
      · exact ⟨by omega, by rw [← hT]; have h := trimL_take L (m - 1) (by omega) (by omega); rw [Nat.sub_add_cancel (by omega)] at h; exact h.symm⟩
      · first | omega | (dsimp only; omega)
      · exact subset_app subset_nil ss0
    · refine JL_pick_t rfl rfl ?_
      refine JL_done_up 21 [] [_] rfl rfl (by simp only [nrmF]; rfl) rfl rfl ?_
      refine JC_false rfl ?_
      refine JC_exit ?_
      refine JE_then_exit ?_
      refine JE_nextS_exit ?_
      refine JE_block_exit ?_
      refine JE_then ?_
      refine JC_seq ?_
      refine JC_region ?_
      refine JL_move rfl ?_
      refine JL_assign rfl ?_
      refine JL_done_up 21 [] [_] rfl rfl (by simp only [nrmF]; rfl) rfl rfl ?_
      refine JC_ret ?_
      have hfin : limbsOf x = L.take m := by
        rw [← hv, ← trimL_spec L hd, ← hT]
        rcases Nat.eq_zero_or_pos m with h0 | h0
        · rw [h0]; rfl
        · have h := trimL_stop L (m - 1) (by omega) (by omega)
          rwa [Nat.sub_add_cancel h0] at h
      have hlen : (limbsOf x).length = m := by rw [hfin, List.length_take]; omega
      refine JE_viewTake m List.mem_cons_self ?_
      rw [u32s_take, ← hfin]
      refine JE_ret (vs := [_]) [vCells ad (u32s (limbsOf x))] Tryd.results59 ⟨rfl, rfl⟩ ?_ ?_
      · exact ⟨ad, cap, by rw [hlen]; rfl, by omega, hm, rfl⟩
      · exact (all_cons (by repeat (first | with_reducible exact mm0 | refine mmS ?_)) all_nil)
  · refine JL_move rfl ?_
    refine JL_guard_no rfl rfl ?_
    refine JL_guard_no rfl rfl ?_
    refine JL_guard_no rfl rfl ?_
    refine JL_guard_no rfl rfl ?_
    refine JL_guard_no rfl rfl ?_
    refine JL_guard_no rfl rfl ?_
    refine JL_guard_no rfl rfl ?_
    refine JL_pick_f rfl rfl ?_
    refine JL_done_up 21 [] [_] rfl rfl (by simp only [nrmF]; rfl) rfl rfl ?_
    refine JC_false rfl ?_
    refine JC_exit ?_
    refine JE_then_exit ?_
    refine JE_nextS_exit ?_
    refine JE_block_exit ?_
    refine JE_then ?_
    refine JC_seq ?_
    refine JC_region ?_
    refine JL_move rfl ?_
    refine JL_assign rfl ?_
    refine JL_done_up 21 [] [_] rfl rfl (by simp only [nrmF]; rfl) rfl rfl ?_
    refine JC_ret ?_
    have hfin : limbsOf x = L.take m := by
      rw [← hv, ← trimL_spec L hd, ← hT]
      rcases Nat.eq_zero_or_pos m with h0 | h0
      · rw [h0]; rfl
      · have h := trimL_stop L (m - 1) (by omega) (by omega)
        rwa [Nat.sub_add_cancel h0] at h
    have hlen : (limbsOf x).length = m := by rw [hfin, List.length_take]; omega
    refine JE_viewTake m List.mem_cons_self ?_
    rw [u32s_take, ← hfin]
    refine JE_ret (vs := [_]) [vCells ad (u32s (limbsOf x))] Tryd.results59 ⟨rfl, rfl⟩ ?_ ?_
    · exact ⟨ad, cap, by rw [hlen]; rfl, by omega, hm, rfl⟩
    · exact (all_cons (by repeat (first | with_reducible exact mm0 | refine mmS ?_)) all_nil)

theorem limbs_con (ad1 : Option Addr) (n1 c1 : Nat) (L1 : List Nat) (x1 : Nat) (g1 : NIn n1 L1 x1 100000000) :
    ConF Tryd.prog 47 [.agg #[.slice ad1 n1 c1]] [vCells ad1 (u32s L1)]
      (LS x1) := by
  obtain ⟨rfl, hu, hx1, hb⟩ := g1
  refine ConF_of Tryd.func47 rfl 38 _ rfl rfl ?_
  intro w0
  refine JC_norm ⟨38, [], [_, _, _, _, _, _, _, _, _, _, _, _, _, _, _, _, _, _, _, _, _, _, _, _, _, _, _, _, _, _, _, _, _, _, _, _, _, _]⟩ [] [_] rfl rfl rfl ?_
  refine JC_seq ?_
  refine JC_region ?_
  refine JL_box rfl rfl (fun b1 => ?_)
  refine JL_assign rfl ?_
  refine JL_done_up 38 [box _ _ [_]] [_] rfl rfl (by simp only [nrmF]; rfl) rfl rfl ?_
  refine JC_seq ?_
  refine JC_region ?_
  refine JL_fieldAddr fo34_0 rfl ?_
  refine JL_load 0 ty32 rfl rfl rfl ?_
  refine JL_len sl32 rfl ?_
  refine JL_add_to rfl rfl (IntWalk.i64_in _ (by omega)) ?_
  refine JL_make1 0 (L1.length + 1) sl32 rfl rfl rfl (by omega) (by omega) (by omega) (by omega) (fun g11 => ?_)
  rw [u32s_replicate]
  refine JL_assign rfl ?_
  refine JL_done_up 38 [box _ _ [_], osl _ _ _ _ _ _] [_] rfl rfl (by simp only [nrmF]; rfl) rfl rfl ?_
  refine JC_seq ?_
  refine JC_region ?_
  refine JL_assign rfl ?_
  refine JL_done_up 38 [box _ _ [_], osl _ _ _ _ _ _] [_] rfl rfl (by simp only [nrmF]; rfl) rfl rfl ?_
  refine JC_seq ?_
  refine JC_seq ?_
  refine JC_region ?_
  refine JL_fieldAddr fo34_0 rfl ?_
  refine JL_load 0 ty32 rfl rfl rfl ?_
  refine JL_len sl32 rfl ?_
  refine JL_move rfl ?_
  refine JL_done_up 38 [box _ _ [_], osl _ _ _ _ _ _] [_] rfl rfl (by simp only [nrmF]; rfl) rfl rfl ?_
  refine JC_block ?_
  refine JC_loopS ((Nat) × (List Nat) × (Nat) × (Option Addr) × (Nat)) (fun (k, out, c, ad, cap) => k ≤ L1.length ∧ out.length = k ∧ Dig out ∧ c ≤ 4 ∧ val out + 1000000000 ^ k * c = val (L1.take k) ∧ k ≤ cap ∧ cap ≤ 9223372036854775807) (fun (k, out, c, ad, cap) => L1.length - k) (fun u (k, out, c, ad, cap) => [none, none, none, some (.slice ad k cap), some (.int .u64 (c : Nat)), none, some (u 6), none, none, none, none, none, none, none, none, some (.int .i64 (k : Nat)), some (u 16), some (u 17), some (u 18), some (u 19), some (u 20), some (u 21), some (u 22), some (u 23), some (u 24), some (u 25), some (u 26), some (u 27), some (u 28), some (u 29), some (u 30), some (u 31), none, none, none, none, none, none]) (fun (k, out, c, ad, cap) => [none, some (osl ad k cap 86 1 (u32s out))]) (fun (k, out, c, ad, cap) => []) (0, [], 0, some ⟨g11, 0, none⟩, L1.length + 1) (by kernel_rfl) ?_ (by kernel_rfl) ?_ ?_
  · exact ⟨Nat.zero_le _, rfl, Dig.nil, by omega, by simp [val], by omega, by omega⟩
  · exact subset_nil
  intro u i hC
  obtain ⟨k, out, c, ad, cap⟩ := i
  obtain ⟨hk, ho, hd, hc, hv, hcap, hm⟩ := hC
  refine JC_norm ⟨38, [], [_, _, _, _, _, _, _, _, _, _, _, _, _, _, _, _, _, _, _, _, _, _, _, _, _, _, _, _, _, _, _, _, _, _, _, _, _, _]⟩ [box _ _ [_], osl _ _ _ _ _ _] [_] rfl rfl rfl ?_
  refine JC_seq ?_
  refine JC_region ?_
  refine JL_lss rfl rfl ?_
  refine JL_split (fun h16 => ?_) (fun h16 => ?_)
  · refine JL_done_up 38 [box _ _ [_], osl _ _ _ _ _ _] [_] rfl rfl (by simp only [nrmF]; rfl) rfl rfl ?_
    refine JC_seq ?_
    refine JC_true rfl ?_
    refine JC_skip ?_
    refine JE_then ?_
    refine JC_seq ?_
    refine JC_block ?_
    refine JC_seq ?_
    refine JC_region ?_
    have hx := hu.getD k
    refine JL_idx k sl32 rfl rfl rfl (by omega) (by first | exact Reads.view (by repeat (first | with_reducible exact mm0 | refine mmS ?_)) | (exact Reads.own 1 rfl)) (by first | (rw [u32s_length]; omega) | (rw [i64s_length]; omega)) ?_
    refine JL_loadE ty86 rfl (by first | exact Reads.view (by repeat (first | with_reducible exact mm0 | refine mmS ?_)) | (exact Reads.own 1 rfl)) (u32s_get (by omega)) ?_
    refine JL_assign rfl ?_
    refine JL_done_up 38 [box _ _ [_], osl _ _ _ _ _ _] [_] rfl rfl (by simp only [nrmF]; rfl) rfl rfl ?_
    refine JC_seq ?_
    refine JC_region ?_
    refine JL_move rfl ?_
    refine JL_move rfl ?_
    refine JL_convInt us86 it78 rfl (IntWalk.u64_in _ (by omega)) ?_
    refine JL_add_to rfl rfl (IntWalk.u64_in _ (by omega)) ?_
    refine JL_assign rfl ?_
    refine JL_done_up 38 [box _ _ [_], osl _ _ _ _ _ _] [_] rfl rfl (by simp only [nrmF]; rfl) rfl rfl ?_
    refine JC_seq ?_
    refine JC_region ?_
    refine JL_move rfl ?_
    refine JL_move rfl ?_
    refine JL_rem_to rfl rfl (by omega) (IntWalk.rem_in _ _ (by omega)) ?_
    refine JL_convInt us78 it86 rfl (IntWalk.u32_in _ (by omega)) ?_
    refine JL_build1 sl32 rfl rfl (fun g27 => ?_)
    refine JL_appendU (L := _) 1 2 ((c + L1.getD k 0) % 1000000000) sl32 rfl rfl rfl rfl (by omega) (by omega) (by omega) (fun ad28 cap28 hc28 => ?_)
    refine JL_dropAt 2 ?_
    refine JL_norm _ [box _ _ [_], osl _ _ _ _ _ _] [_] rfl rfl rfl ?_
    refine JL_assign rfl ?_
    refine JL_done_up 38 [box _ _ [_], osl _ _ _ _ _ _] [_] rfl rfl (by simp only [nrmF]; rfl) rfl rfl ?_
    refine JC_region ?_
    refine JL_move rfl ?_
    refine JL_quo_to rfl rfl (by omega) (IntWalk.u64_quo _ _ (by omega)) ?_
    refine JL_assign rfl ?_
    refine JL_nil_up 38 [box _ _ [_], osl _ _ _ _ _ _] [_] rfl rfl (by simp only [nrmF]; rfl) rfl rfl ?_
    refine JE_block_normal ?_
    refine JE_then ?_
    refine JC_region ?_
    refine JL_add_to rfl rfl (IntWalk.i64_in _ (by omega)) ?_
    refine JL_move rfl ?_
    refine JL_nil_up 38 [box _ _ [_], osl _ _ _ _ _ _] [_] rfl rfl (by simp only [nrmF]; rfl) rfl rfl ?_
    refine JE_nextS (k + 1, out ++ [(c + L1.getD k 0) % 1000000000], (c + L1.getD k 0) / 1000000000, ad28, cap28) (by kernel_rfl) ?_ ?_ (by kernel_rfl) ?_
    · exact ⟨by omega, by rw [len_snoc]; omega, dig_snoc hd (Nat.mod_lt _ (by decide)), by omega, limbs_step ho hv rfl, by omega, by omega⟩
    · first | omega | (dsimp only; omega)
    · exact subset_app subset_nil ss0
  · refine JL_done_up 38 [box _ _ [_], osl _ _ _ _ _ _] [_] rfl rfl (by simp only [nrmF]; rfl) rfl rfl ?_
    refine JC_seq ?_
    refine JC_false rfl ?_
    refine JC_exit ?_
    refine JE_then_exit ?_
    refine JE_nextS_exit ?_
    refine JE_block_exit ?_
    refine JE_then ?_
    refine JC_seq ?_
    refine JC_region ?_
    refine JL_move rfl ?_
    refine JL_move rfl ?_
    refine JL_convInt us78 it86 rfl (IntWalk.u32_in _ (by omega)) ?_
    refine JL_build1 sl32 rfl rfl (fun g35 => ?_)
    refine JL_appendU (L := _) 1 2 c sl32 rfl rfl rfl rfl (by omega) (by omega) (by omega) (fun ad36 cap36 hc36 => ?_)
    refine JL_dropAt 2 ?_
    refine JL_norm _ [box _ _ [_], osl _ _ _ _ _ _] [_] rfl rfl rfl ?_
    refine JL_give 1 rfl ?_
    refine JL_norm _ [box _ _ [_]] [_, _] rfl rfl rfl ?_
    refine JL_callA' true (AsksA.cons (holdsA_of_mem (by repeat (first | with_reducible exact mm0 | refine mmS ?_))) AsksA.nil) (trim_con _ _ _ _ _ ⟨(by first | rfl | assumption | (simp only [lenS]; omega)), (dig_snoc hd (by omega)), (by rw [val_snoc, ho, hv, val_take_all L1 k (by omega), hx1])⟩ (by omega) (by omega)) rfl ca59 ⟨rfl, rfl⟩ ?_
    rintro _ _ ⟨ad37, cap37, rfl, hk37, hm37, rfl⟩
    refine JL_assign rfl ?_
    refine JL_done_up 38 [box _ _ [_]] [_, _, _] rfl rfl (by simp only [nrmF]; rfl) rfl rfl ?_
    refine JC_ret ?_
    refine JE_ret (vs := [_]) [vCells ad37 (u32s (limbsOf (x1)))] Tryd.results47 ⟨rfl, rfl⟩ ?_ ?_
    · exact ⟨ad37, cap37, rfl, hk37, hm37, rfl⟩
    · exact (all_cons (by repeat (first | with_reducible exact mm0 | refine mmS ?_)) all_nil)

theorem made_con (ad : Option Addr) (n cap : Nat) (L : List Nat) (x : Nat) (g : DIn n L x) (hc : n ≤ cap) (hm : cap ≤ 9223372036854775807) :
    ConA Tryd.prog 48 [.slice ad n cap] [vCells ad (u32s L)]
      (LN x) := by
  refine ConA_of Tryd.func48 rfl 11 _ rfl rfl ?_
  intro w0
  refine JC_norm ⟨11, [], [_, _, _, _, _, _, _, _, _, _, _]⟩ [] [_] rfl rfl rfl ?_
  refine JC_seq ?_
  refine JC_region ?_
  refine JL_alloc z34 (fun b2 => ?_)
  refine JL_done_up 11 [box _ _ [_]] [_] rfl rfl (by simp only [nrmF]; rfl) rfl rfl ?_
  refine JC_seq ?_
  refine JC_region ?_
  refine JL_move rfl ?_
  refine JL_callA' true (AsksA.cons (holdsA_of_mem (by repeat (first | with_reducible exact mm0 | refine mmS ?_))) AsksA.nil) (trim_con _ _ _ _ _ g hc hm) rfl ca59 ⟨rfl, rfl⟩ ?_
  rintro _ _ ⟨ad4, cap4, rfl, hk4, hm4, rfl⟩
  refine JL_assign rfl ?_
  refine JL_done_up 11 [box _ _ [_]] [_, _] rfl rfl (by simp only [nrmF]; rfl) rfl rfl ?_
  refine JC_seq ?_
  refine JC_seq ?_
  refine JC_region ?_
  refine JL_move rfl ?_
  refine JL_len sl32 rfl ?_
  refine JL_eql rfl rfl ?_
  refine JL_split (fun h7 => ?_) (fun h7 => ?_)
  · refine JL_done_up 11 [box _ _ [_]] [_, _] rfl rfl (by simp only [nrmF]; rfl) rfl rfl ?_
    refine JC_true rfl ?_
    refine JC_seq ?_
    refine JC_region ?_
    refine JL_build (cs := [_]) [] st34 rfl rfl ?_
    refine JL_store (vs := [_]) 0 ty34 rfl rfl rfl (AllOne.cons rfl AllOne.nil) rfl (Nat.le_of_ble_eq_true rfl) ?_
    refine JL_done_up 11 [box _ _ [_]] [_, _] rfl rfl (by simp only [nrmF]; rfl) rfl rfl ?_
    refine JC_ret ?_
    refine JE_then_ret ?_
    have hz := limbs_zero (x := x) (by omega)
    subst hz
    refine JE_nilView ?_
    refine JE_ret (vs := [_]) [vCells none (u32s [])] Tryd.results48 ⟨RV.cell (vs := [_]) 0 ty34 rfl rfl ⟨rfl, trivial⟩, rfl⟩ ?_ ?_
    · exact ⟨none, 0, by rw [limbsOf_zero]; rfl, by rw [limbsOf_zero]; exact Nat.le_refl _, by omega, by rw [limbsOf_zero]⟩
    · exact (all_cons (by repeat (first | with_reducible exact mm0 | refine mmS ?_)) all_nil)
  · refine JL_done_up 11 [box _ _ [_]] [_, _] rfl rfl (by simp only [nrmF]; rfl) rfl rfl ?_
    refine JC_false rfl ?_
    refine JC_skip ?_
    refine JE_then ?_
    refine JC_seq ?_
    refine JC_region ?_
    refine JL_move rfl ?_
    refine JL_build (cs := [_]) [(0, [_])] st34 ⟨⟨rfl, _, rfl, rfl⟩, rfl⟩ rfl ?_
    refine JL_store (vs := [_]) 0 ty34 rfl rfl rfl (AllOne.cons rfl AllOne.nil) rfl (Nat.le_of_ble_eq_true rfl) ?_
    refine JL_done_up 11 [box _ _ [_]] [_, _] rfl rfl (by simp only [nrmF]; rfl) rfl rfl ?_
    refine JC_ret ?_
    refine JE_ret (vs := [_]) [vCells ad4 (u32s (limbsOf (x)))] Tryd.results48 ⟨RV.cell (vs := [_]) 0 ty34 rfl rfl ⟨rfl, trivial⟩, rfl⟩ ?_ ?_
    · exact ⟨ad4, cap4, rfl, hk4, hm4, rfl⟩
    · exact (all_cons (by repeat (first | with_reducible exact mm0 | refine mmS ?_)) all_nil)

theorem compare_con (ad1 : Option Addr) (n1 c1 : Nat) (ad2 : Option Addr) (n2 c2 : Nat) (n m : Nat) (h1 : (limbsOf n).length = n1) (h2 : (limbsOf m).length = n2) (hb : n1 ≤ 1000000000) (hb2 : n2 ≤ 1000000000) :
    ConF Tryd.prog 46 [.slice ad1 n1 c1, .slice ad2 n2 c2] [vCells ad1 (u32s (limbsOf n)), vCells ad2 (u32s (limbsOf m))]
      (fun v φo => v = .int .i64 (cmpN n m) ∧ φo = []) := by
  subst h1 h2
  refine ConF_of Tryd.func46 rfl 41 _ rfl rfl ?_
  intro w0
  refine JC_norm ⟨41, [], [_, _, _, _, _, _, _, _, _, _, _, _, _, _, _, _, _, _, _, _, _, _, _, _, _, _, _, _, _, _, _, _, _, _, _, _, _, _, _, _, _]⟩ [] [_, _] rfl rfl rfl ?_
  refine JC_seq ?_
  refine JC_region ?_
  refine JL_assign rfl ?_
  refine JL_done_up 41 [] [_, _] rfl rfl (by simp only [nrmF]; rfl) rfl rfl ?_
  refine JC_seq ?_
  refine JC_seq ?_
  refine JC_region ?_
  refine JL_move rfl ?_
  refine JL_len sl32 rfl ?_
  refine JL_move rfl ?_
  refine JL_len sl32 rfl ?_
  refine JL_neq rfl rfl ?_
  refine JL_split (fun h10 => ?_) (fun h10 => ?_)
  · refine JL_done_up 41 [] [_, _] rfl rfl (by simp only [nrmF]; rfl) rfl rfl ?_
    refine JC_true rfl ?_
    refine JC_seq ?_
    refine JC_seq ?_
    refine JC_region ?_
    refine JL_move rfl ?_
    refine JL_len sl32 rfl ?_
    refine JL_move rfl ?_
    refine JL_len sl32 rfl ?_
    refine JL_lss rfl rfl ?_
    refine JL_split (fun h15 => ?_) (fun h15 => ?_)
    · refine JL_done_up 41 [] [_, _] rfl rfl (by simp only [nrmF]; rfl) rfl rfl ?_
      refine JC_true rfl ?_
      refine JC_seq ?_
      refine JC_region ?_
      refine JL_assign rfl ?_
      refine JL_done_up 41 [] [_, _] rfl rfl (by simp only [nrmF]; rfl) rfl rfl ?_
      refine JC_ret ?_
      refine JE_then_ret ?_
      refine JE_then_ret ?_
      refine JE_ret (vs := [_]) [] Tryd.results46 ⟨rfl, rfl⟩ ?_ ?_
      · exact ⟨by rw [cmpN_lt (length_limbsOf_lt (by omega))]; rfl, rfl⟩
      · exact all_nil
    · refine JL_done_up 41 [] [_, _] rfl rfl (by simp only [nrmF]; rfl) rfl rfl ?_
      refine JC_false rfl ?_
      refine JC_skip ?_
      refine JE_then ?_
      refine JC_seq ?_
      refine JC_region ?_
      refine JL_assign rfl ?_
      refine JL_done_up 41 [] [_, _] rfl rfl (by simp only [nrmF]; rfl) rfl rfl ?_
      refine JC_ret ?_
      refine JE_then_ret ?_
      refine JE_ret (vs := [_]) [] Tryd.results46 ⟨rfl, rfl⟩ ?_ ?_
      · exact ⟨by rw [cmpN_gt (length_limbsOf_lt (by omega))]; rfl, rfl⟩
      · exact all_nil
  · have hlen : (limbsOf n).length = (limbsOf m).length := by omega
    refine JL_done_up 41 [] [_, _] rfl rfl (by simp only [nrmF]; rfl) rfl rfl ?_
    refine JC_false rfl ?_
    refine JC_skip ?_
    refine JE_then ?_
    refine JC_seq ?_
    refine JC_seq ?_
    refine JC_region ?_
    refine JL_move rfl ?_
    refine JL_len sl32 rfl ?_
    refine JL_sub_to rfl rfl (IntWalk.i64_in _ (by omega)) ?_
    refine JL_assign rfl ?_
    refine JL_done_up 41 [] [_, _] rfl rfl (by simp only [nrmF]; rfl) rfl rfl ?_
    refine JC_block ?_
    refine JC_loopS ((Nat)) (fun (k : Nat) => k ≤ (limbsOf n).length ∧ (limbsOf n).drop k = (limbsOf m).drop k) (fun (k : Nat) => k) (fun u (k : Nat) => [none, none, none, none, some (u 4), some (.int .i64 ((k : Nat) - 1)), none, none, none, none, none, none, none, none, none, none, none, none, none, some (u 19), some (u 20), some (u 21), some (u 22), some (u 23), some (u 24), some (u 25), some (u 26), some (u 27), some (u 28), some (u 29), some (u 30), some (u 31), some (u 32), some (u 33), some (u 34), some (u 35), some (u 36), some (u 37), some (u 38), some (u 39), some (u 40)]) (fun (k : Nat) => []) (fun (k : Nat) => []) ((limbsOf n).length) (by kernel_rfl) ?_ (by kernel_rfl) ?_ ?_
    · exact ⟨Nat.le_refl _, by rw [List.drop_length, List.drop_of_length_le (by omega)]⟩
    · exact subset_nil
    intro u k hC
    obtain ⟨hk, hd⟩ := hC
    refine JC_norm ⟨41, [], [_, _, _, _, _, _, _, _, _, _, _, _, _, _, _, _, _, _, _, _, _, _, _, _, _, _, _, _, _, _, _, _, _, _, _, _, _, _, _, _, _]⟩ [] [_, _] rfl rfl rfl ?_
    refine JC_seq ?_
    refine JC_seq ?_
    refine JC_region ?_
    refine JL_move rfl ?_
    refine JL_geq rfl rfl ?_
    refine JL_split (fun h20 => ?_) (fun h20 => ?_)
    · refine JL_done_up 41 [] [_, _] rfl rfl (by simp only [nrmF]; rfl) rfl rfl ?_
      refine JC_true rfl ?_
      refine JC_skip ?_
      refine JE_then ?_
      refine JC_seq ?_
      refine JC_block ?_
      refine JC_seq ?_
      refine JC_drawT mixed 8 [spV 23 [] _, spV 24 [] _, spV 25 [0, 1] _, spV 26 [2] _, spV 27 [] _, spV 28 [] _, spV 29 [4, 5] _, spV 30 [6] _] ⟨OblS_V (fun vals ex ψ => (by
          refine JL_normQ ⟨41, [(23, _), (24, _), (25, _), (26, _), (27, _), (28, _), (29, _), (30, _)], _⟩ (_ :: _ :: ψ) rfl rfl ?_
          refine JL_move rfl ?_
          exact JL_nil (JE_stepV rfl ss0))), OblS_V (fun vals ex ψ => (by
          refine JL_normQ ⟨41, [(23, _), (24, _), (25, _), (26, _), (27, _), (28, _), (29, _), (30, _)], _⟩ (_ :: _ :: ψ) rfl rfl ?_
          refine JL_move rfl ?_
          exact JL_nil (JE_stepV rfl ss0))), OblS_V (fun vals ex ψ => (by
          refine JL_normQ ⟨41, [(23, _), (24, _), (25, _), (26, _), (27, _), (28, _), (29, _), (30, _)], _⟩ (_ :: _ :: ψ) rfl rfl ?_
          refine JL_idx (k - 1) sl32 rfl rfl (by omega) (by omega) (Reads.view List.mem_cons_self) (by first | (rw [u32s_length]; omega) | (rw [i64s_length]; omega)) ?_
          exact JL_nil (JE_stepV rfl ss0))), OblS_V (fun vals ex ψ => (by
          refine JL_normQ ⟨41, [(23, _), (24, _), (25, _), (26, _), (27, _), (28, _), (29, _), (30, _)], _⟩ (_ :: _ :: ψ) rfl rfl ?_
          refine JL_loadE ty86 rfl (Reads.view List.mem_cons_self) (u32s_get (by omega)) ?_
          exact JL_nil (JE_stepV rfl ss0))), OblS_V (fun vals ex ψ => (by
          refine JL_normQ ⟨41, [(23, _), (24, _), (25, _), (26, _), (27, _), (28, _), (29, _), (30, _)], _⟩ (_ :: _ :: ψ) rfl rfl ?_
          refine JL_move rfl ?_
          exact JL_nil (JE_stepV rfl ss0))), OblS_V (fun vals ex ψ => (by
          refine JL_normQ ⟨41, [(23, _), (24, _), (25, _), (26, _), (27, _), (28, _), (29, _), (30, _)], _⟩ (_ :: _ :: ψ) rfl rfl ?_
          refine JL_move rfl ?_
          exact JL_nil (JE_stepV rfl ss0))), OblS_V (fun vals ex ψ => (by
          refine JL_normQ ⟨41, [(23, _), (24, _), (25, _), (26, _), (27, _), (28, _), (29, _), (30, _)], _⟩ (_ :: _ :: ψ) rfl rfl ?_
          refine JL_idx (k - 1) sl32 rfl rfl (by omega) (by omega) (Reads.view (List.mem_cons_of_mem _ List.mem_cons_self)) (by first | (rw [u32s_length]; omega) | (rw [i64s_length]; omega)) ?_
          exact JL_nil (JE_stepV rfl ss0))), OblS_V (fun vals ex ψ => (by
          refine JL_normQ ⟨41, [(23, _), (24, _), (25, _), (26, _), (27, _), (28, _), (29, _), (30, _)], _⟩ (_ :: _ :: ψ) rfl rfl ?_
          refine JL_loadE ty86 rfl (Reads.view (List.mem_cons_of_mem _ List.mem_cons_self)) (u32s_get (by omega)) ?_
          exact JL_nil (JE_stepV rfl ss0))), trivial⟩ (by kernel_rfl) (fun vals bs => ?_)
      refine JL_normL [_] ⟨41, [(23, _), (24, _), (25, _), (26, _), (27, _), (28, _), (29, _), (30, _)], _⟩ [] [_, _] rfl rfl rfl rfl ?_
      refine JL_neq rfl rfl ?_
      refine JL_split (fun h31 => ?_) (fun h31 => ?_)
      · refine JL_done_up 41 [] [_, _] rfl rfl (by simp only [nrmF]; rfl) rfl rfl ?_
        refine JC_true rfl ?_
        refine JC_seq ?_
        refine JC_seq ?_
        refine JC_drawT mixed 8 [spV 32 [] _, spV 33 [] _, spV 34 [0, 1] _, spV 35 [2] _, spV 36 [] _, spV 37 [] _, spV 38 [4, 5] _, spV 39 [6] _] ⟨OblS_V (fun vals ex ψ => (by
            refine JL_normQ ⟨41, [(32, _), (33, _), (34, _), (35, _), (36, _), (37, _), (38, _), (39, _)], _⟩ (_ :: _ :: ψ) rfl rfl ?_
            refine JL_move rfl ?_
            exact JL_nil (JE_stepV rfl ss0))), OblS_V (fun vals ex ψ => (by
            refine JL_normQ ⟨41, [(32, _), (33, _), (34, _), (35, _), (36, _), (37, _), (38, _), (39, _)], _⟩ (_ :: _ :: ψ) rfl rfl ?_
            refine JL_move rfl ?_
            exact JL_nil (JE_stepV rfl ss0))), OblS_V (fun vals ex ψ => (by
            refine JL_normQ ⟨41, [(32, _), (33, _), (34, _), (35, _), (36, _), (37, _), (38, _), (39, _)], _⟩ (_ :: _ :: ψ) rfl rfl ?_
            refine JL_idx (k - 1) sl32 rfl rfl (by omega) (by omega) (Reads.view List.mem_cons_self) (by first | (rw [u32s_length]; omega) | (rw [i64s_length]; omega)) ?_
            exact JL_nil (JE_stepV rfl ss0))), OblS_V (fun vals ex ψ => (by
            refine JL_normQ ⟨41, [(32, _), (33, _), (34, _), (35, _), (36, _), (37, _), (38, _), (39, _)], _⟩ (_ :: _ :: ψ) rfl rfl ?_
            refine JL_loadE ty86 rfl (Reads.view List.mem_cons_self) (u32s_get (by omega)) ?_
            exact JL_nil (JE_stepV rfl ss0))), OblS_V (fun vals ex ψ => (by
            refine JL_normQ ⟨41, [(32, _), (33, _), (34, _), (35, _), (36, _), (37, _), (38, _), (39, _)], _⟩ (_ :: _ :: ψ) rfl rfl ?_
            refine JL_move rfl ?_
            exact JL_nil (JE_stepV rfl ss0))), OblS_V (fun vals ex ψ => (by
            refine JL_normQ ⟨41, [(32, _), (33, _), (34, _), (35, _), (36, _), (37, _), (38, _), (39, _)], _⟩ (_ :: _ :: ψ) rfl rfl ?_
            refine JL_move rfl ?_
            exact JL_nil (JE_stepV rfl ss0))), OblS_V (fun vals ex ψ => (by
            refine JL_normQ ⟨41, [(32, _), (33, _), (34, _), (35, _), (36, _), (37, _), (38, _), (39, _)], _⟩ (_ :: _ :: ψ) rfl rfl ?_
            refine JL_idx (k - 1) sl32 rfl rfl (by omega) (by omega) (Reads.view (List.mem_cons_of_mem _ List.mem_cons_self)) (by first | (rw [u32s_length]; omega) | (rw [i64s_length]; omega)) ?_
            exact JL_nil (JE_stepV rfl ss0))), OblS_V (fun vals ex ψ => (by
            refine JL_normQ ⟨41, [(32, _), (33, _), (34, _), (35, _), (36, _), (37, _), (38, _), (39, _)], _⟩ (_ :: _ :: ψ) rfl rfl ?_
            refine JL_loadE ty86 rfl (Reads.view (List.mem_cons_of_mem _ List.mem_cons_self)) (u32s_get (by omega)) ?_
            exact JL_nil (JE_stepV rfl ss0))), trivial⟩ (by kernel_rfl) (fun vals bs => ?_)
        refine JL_normL [_] ⟨41, [(32, _), (33, _), (34, _), (35, _), (36, _), (37, _), (38, _), (39, _)], _⟩ [] [_, _] rfl rfl rfl rfl ?_
        refine JL_lss rfl rfl ?_
        refine JL_split (fun h40 => ?_) (fun h40 => ?_)
        · refine JL_done_up 41 [] [_, _] rfl rfl (by simp only [nrmF]; rfl) rfl rfl ?_
          refine JC_true rfl ?_
          refine JC_seq ?_
          refine JC_region ?_
          refine JL_assign rfl ?_
          refine JL_done_up 41 [] [_, _] rfl rfl (by simp only [nrmF]; rfl) rfl rfl ?_
          refine JC_ret ?_
          refine JE_then_ret ?_
          refine JE_block_ret ?_
          refine JE_then_ret ?_
          refine JE_nextS_ret ?_
          refine JE_block_ret ?_
          refine JE_then_ret ?_
          refine JE_ret (vs := [_]) [] Tryd.results46 ⟨rfl, rfl⟩ ?_ ?_
          · exact ⟨by rw [cmpN_lt (cmp_top hlen (k - 1) (by omega) (by rw [Nat.sub_add_cancel (by omega)]; exact hd) (by omega))]; rfl, rfl⟩
          · exact all_nil
        · refine JL_done_up 41 [] [_, _] rfl rfl (by simp only [nrmF]; rfl) rfl rfl ?_
          refine JC_false rfl ?_
          refine JC_skip ?_
          refine JE_then ?_
          refine JC_seq ?_
          refine JC_region ?_
          refine JL_assign rfl ?_
          refine JL_done_up 41 [] [_, _] rfl rfl (by simp only [nrmF]; rfl) rfl rfl ?_
          refine JC_ret ?_
          refine JE_block_ret ?_
          refine JE_then_ret ?_
          refine JE_nextS_ret ?_
          refine JE_block_ret ?_
          refine JE_then_ret ?_
          refine JE_ret (vs := [_]) [] Tryd.results46 ⟨rfl, rfl⟩ ?_ ?_
          · exact ⟨by rw [cmpN_gt (cmp_top hlen.symm (k - 1) (by omega) (by rw [Nat.sub_add_cancel (by omega)]; exact hd.symm) (by omega))]; rfl, rfl⟩
          · exact all_nil
      · refine JL_done_up 41 [] [_, _] rfl rfl (by simp only [nrmF]; rfl) rfl rfl ?_
        refine JC_false rfl ?_
        refine JC_skip ?_
        refine JE_block_normal ?_
        refine JE_then ?_
        refine JC_region ?_
        refine JL_move rfl ?_
        refine JL_sub_to rfl rfl (IntWalk.i64_in _ (by omega)) ?_
        rw [show ((k : Int) - 1 - 1 : Int) = ((k - 1 : Nat) : Int) - 1 from by omega]
        refine JL_assign rfl ?_
        refine JL_nil_up 41 [] [_, _] rfl rfl (by simp only [nrmF]; rfl) rfl rfl ?_
        refine JE_nextS (k - 1) (by kernel_rfl) ?_ ?_ (by kernel_rfl) ?_
        · exact ⟨by omega, cmp_drop hlen (k - 1) (by omega) (by rw [Nat.sub_add_cancel (by omega)]; exact hd) (by omega)⟩
        · first | omega | (dsimp only; omega)
        · exact subset_app subset_nil ss0
    · refine JL_done_up 41 [] [_, _] rfl rfl (by simp only [nrmF]; rfl) rfl rfl ?_
      refine JC_false rfl ?_
      refine JC_exit ?_
      refine JE_then_exit ?_
      refine JE_nextS_exit ?_
      refine JE_block_exit ?_
      refine JE_then ?_
      refine JC_seq ?_
      refine JC_region ?_
      refine JL_assign rfl ?_
      refine JL_done_up 41 [] [_, _] rfl rfl (by simp only [nrmF]; rfl) rfl rfl ?_
      refine JC_ret ?_
      refine JE_ret (vs := [_]) [] Tryd.results46 ⟨rfl, rfl⟩ ?_ ?_
      · exact ⟨by rw [cmpN_eq (cmp_all (by rw [show (0 : Nat) = k from by omega]; exact hd))]; rfl, rfl⟩
      · exact all_nil

end Go.Fw.K
