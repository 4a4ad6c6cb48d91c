/- Walks through functions of the given program: each meets its contract. (Printed by a program of this repo.) -/
import Derived.Test.YtmbgbodkhdfdoaaDoorFwJ
import Derived.Test.YtmbgbodkhdfdoaaDoorProg
namespace Go.Fw.V1
open Go Go.RowKit Go.Proofs Go.Nat9 Go.Fw
attribute [local irreducible] JC JL JE
theorem ca94 : callable Tryd.prog 94 = true := by kernel_rfl
theorem fo24_0 : fOf Tryd.prog 24 0 = some 0 := by kernel_rfl
theorem it87 : intTy Tryd.prog 87 = some .u32 := by kernel_rfl
theorem it94 : intTy Tryd.prog 94 = some .u64 := by kernel_rfl
theorem sl22 : slOf Tryd.prog 22 = some (87, 1, 4, [.int .u32 0]) := by kernel_rfl
theorem st24 : stOf Tryd.prog 24 = some ([(0, 1)], [.slice none 0 0]) := by kernel_rfl
theorem ty22 : tyOf Tryd.prog 22 = some (false, 1) := by kernel_rfl
theorem ty24 : tyOf Tryd.prog 24 = some (true, 1) := by kernel_rfl
theorem ty87 : tyOf Tryd.prog 87 = some (false, 1) := by kernel_rfl
theorem us87 : (Tryd.prog.underlying 87).isSome = true := by kernel_rfl
theorem us94 : (Tryd.prog.underlying 94).isSome = true := by kernel_rfl
theorem z24 : zeroOf Tryd.prog 24 = some [.slice none 0 0] := by kernel_rfl
end Go.Fw.V1
namespace Go.Fw.K
open Go Go.RowKit Go.Proofs Go.Nat9 Go.Fw Go.Fw.V1
attribute [local irreducible] JC JL JE

theorem rnorm_con (ad1 : Option Addr) (n1 c1 : Nat) (L1 : List Nat) (x1 : Nat) (g1 : NIn n1 L1 x1 1000000000) :
    ConF Tryd.prog 94 [.agg #[.slice ad1 n1 c1]] [vCells ad1 (u32s L1)]
      (LN x1) := by
  obtain ⟨rfl, hu, hx1, hb⟩ := g1
  refine ConF_of Tryd.func94 rfl 57 _ rfl rfl ?_
  intro w0
  refine JC_norm ⟨57, [], [_, _, _, _, _, _, _, _, _, _, _, _, _, _, _, _, _, _, _, _, _, _, _, _, _, _, _, _, _, _, _, _, _, _, _, _, _, _, _, _, _, _, _, _, _, _, _, _, _, _, _, _, _, _, _, _, _]⟩ [] [_] rfl rfl rfl ?_
  refine JC_seq ?_
  refine JC_region ?_
  refine JL_box rfl rfl (fun b1 => ?_)
  refine JL_alloc z24 (fun b2 => ?_)
  refine JL_done_up 57 [box _ _ [_], box _ _ [_]] [_] rfl rfl (by simp only [nrmF]; rfl) rfl rfl ?_
  refine JC_seq ?_
  refine JC_region ?_
  refine JL_assign rfl ?_
  refine JL_done_up 57 [box _ _ [_], box _ _ [_]] [_] rfl rfl (by simp only [nrmF]; rfl) rfl rfl ?_
  refine JC_seq ?_
  refine JC_region ?_
  refine JL_assign rfl ?_
  refine JL_done_up 57 [box _ _ [_], box _ _ [_]] [_] rfl rfl (by simp only [nrmF]; rfl) rfl rfl ?_
  refine JC_seq ?_
  refine JC_seq ?_
  refine JC_region ?_
  refine JL_assign rfl ?_
  refine JL_done_up 57 [box _ _ [_], box _ _ [_]] [_] rfl rfl (by simp only [nrmF]; rfl) rfl rfl ?_
  refine JC_block ?_
  refine JC_addNil 87 1 ?_
  refine JC_norm ⟨57, [], [_, _, _, _, _, _, _, _, _, _, _, _, _, _, _, _, _, _, _, _, _, _, _, _, _, _, _, _, _, _, _, _, _, _, _, _, _, _, _, _, _, _, _, _, _, _, _, _, _, _, _, _, _, _, _, _, _]⟩ [box _ _ [_], box _ _ [_], osl _ _ _ _ _ _] [_] rfl rfl rfl ?_
  refine JC_loopS ((Nat) × (List Nat) × (Nat) × (Option Addr) × (Nat)) (fun (k, out, c, ad, cap) => (k ≤ L1.length ∨ (k = L1.length + 1 ∧ c = 0)) ∧ out.length = k ∧ Dig out ∧ c ≤ 4 ∧ val out + 1000000000 ^ k * c = val (L1.take k) ∧ k ≤ cap ∧ cap ≤ 9223372036854775807) (fun (k, out, c, ad, cap) => L1.length + 1 - k) (fun u (k, out, c, ad, cap) => [none, none, none, some (.slice ad k cap), some (.int .u64 (c : Nat)), some (.int .i64 (k : Nat)), some (u 6), some (u 7), some (u 8), some (u 9), some (u 10), some (u 11), some (u 12), some (u 13), some (u 14), some (u 15), some (u 16), some (u 17), some (u 18), some (u 19), some (u 20), some (u 21), some (u 22), some (u 23), some (u 24), some (u 25), some (u 26), some (u 27), some (u 28), some (u 29), some (u 30), some (u 31), some (u 32), some (u 33), some (u 34), some (u 35), some (u 36), some (u 37), none, none, none, none, none, none, none, none, none, none, none, none, none, none, none, none, none, none, none]) (fun (k, out, c, ad, cap) => [none, none, some (osl ad k cap 87 1 (u32s out))]) (fun (k, out, c, ad, cap) => []) (0, [], 0, none, 0) (by kernel_rfl) ?_ (by kernel_rfl) ?_ ?_
  · exact ⟨.inl (Nat.zero_le _), rfl, Dig.nil, by omega, by simp [val], by omega, by omega⟩
  · exact subset_nil
  intro u i hC
  obtain ⟨k, out, c, ad, cap⟩ := i
  obtain ⟨hk, ho, hd, hc, hv, hcap, hm⟩ := hC
  refine JC_norm ⟨57, [], [_, _, _, _, _, _, _, _, _, _, _, _, _, _, _, _, _, _, _, _, _, _, _, _, _, _, _, _, _, _, _, _, _, _, _, _, _, _, _, _, _, _, _, _, _, _, _, _, _, _, _, _, _, _, _, _, _]⟩ [box _ _ [_], box _ _ [_], osl _ _ _ _ _ _] [_] rfl rfl rfl ?_
  have hx := hu.getD k
  have hz : L1.length ≤ k → L1.getD k 0 = 0 := getD_of_ge L1 k
  refine JC_seq ?_
  refine JC_seq ?_
  refine JC_region ?_
  refine JL_move rfl ?_
  refine JL_fieldAddr fo24_0 rfl ?_
  refine JL_load 0 ty22 rfl rfl rfl ?_
  refine JL_len sl22 rfl ?_
  refine JL_lss rfl rfl ?_
  refine JL_split (fun h10 => ?_) (fun h10 => ?_)
  · refine JL_move rfl ?_
    refine JL_guard_no rfl rfl ?_
    refine JL_guard_no rfl rfl ?_
    refine JL_pick_t rfl rfl ?_
    refine JL_done_up 57 [box _ _ [_], box _ _ [_], osl _ _ _ _ _ _] [_] rfl rfl (by simp only [nrmF]; rfl) rfl rfl ?_
    refine JC_true rfl ?_
    refine JC_skip ?_
    refine JE_then ?_
    refine JC_seq ?_
    refine JC_block ?_
    refine JC_seq ?_
    refine JC_seq ?_
    refine JC_region ?_
    refine JL_move rfl ?_
    refine JL_fieldAddr fo24_0 rfl ?_
    refine JL_load 0 ty22 rfl rfl rfl ?_
    refine JL_len sl22 rfl ?_
    refine JL_lss rfl rfl ?_
    refine JL_done_up 57 [box _ _ [_], box _ _ [_], osl _ _ _ _ _ _] [_] rfl rfl (by simp only [nrmF]; rfl) rfl rfl ?_
    refine JC_cutT ((Nat)) (fun (t : Nat) => t = c + L1.getD k 0) (fun u (t : Nat) => [none, none, none, none, some (.int .u64 (t : Nat)), none, none, none, none, none, none, none, none, none, none, none, none, none, none, none, none, none, some (u 22), some (u 23), some (u 24), some (u 25), some (u 26), some (u 27), some (u 28), some (u 29), none, none, none, none, none, none, none, none, none, none, none, none, none, none, none, none, none, none, none, none, none, none, none, none, none, none, none]) (fun (t : Nat) => [none, none, none]) (fun (t : Nat) => []) ?_ ?_
    · refine JC_cond rfl (fun hb => ?_) (fun hb => ?_)
      · have h21 := of_decide_eq_true hb
        refine JC_region ?_
        refine JL_move rfl ?_
        refine JL_fieldAddr fo24_0 rfl ?_
        refine JL_load 0 ty22 rfl rfl rfl ?_
        refine JL_move rfl ?_
        refine JL_idx k sl22 rfl rfl rfl (by omega) (by first | exact Reads.view (by repeat (first | with_reducible exact mm0 | refine mmS ?_)) | (exact Reads.own 2 rfl)) (by first | (rw [u32s_length]; omega) | (rw [i64s_length]; omega)) ?_
        refine JL_loadE ty87 rfl (by first | exact Reads.view (by repeat (first | with_reducible exact mm0 | refine mmS ?_)) | (exact Reads.own 2 rfl)) (u32s_get (by omega)) ?_
        refine JL_convInt us87 it94 rfl (IntWalk.u64_in _ (by omega)) ?_
        refine JL_add_to rfl rfl (IntWalk.u64_in _ (by omega)) ?_
        refine JL_assign rfl ?_
        refine JL_nil_up 57 [box _ _ [_], box _ _ [_], osl _ _ _ _ _ _] [_] rfl rfl (by simp only [nrmF]; rfl) rfl rfl ?_
        refine JE_midS (c + L1.getD k 0) (by kernel_rfl) ?_ (by kernel_rfl) ?_
        · exact rfl
        · exact subset_app subset_nil ss0
      · have h21 := of_decide_eq_false hb
        refine JC_skip ?_
        refine JE_midS (c) (by kernel_rfl) ?_ (by kernel_rfl) ?_
        · show _ = _ + _; rw [getD_of_ge L1 k (by omega)]; omega
        · exact subset_app subset_nil ss0
    intro u t ht
    refine JC_norm ⟨57, [], [_, _, _, _, _, _, _, _, _, _, _, _, _, _, _, _, _, _, _, _, _, _, _, _, _, _, _, _, _, _, _, _, _, _, _, _, _, _, _, _, _, _, _, _, _, _, _, _, _, _, _, _, _, _, _, _, _]⟩ [box _ _ [_], box _ _ [_], osl _ _ _ _ _ _] [_] rfl rfl rfl ?_
    refine JC_seq ?_
    refine JC_region ?_
    refine JL_move rfl ?_
    refine JL_move rfl ?_
    refine JL_rem_to rfl rfl (by omega) (IntWalk.rem_in _ _ (by omega)) ?_
    refine JL_convInt us94 it87 rfl (IntWalk.u32_in _ (by omega)) ?_
    refine JL_build1 sl22 rfl rfl (fun g34 => ?_)
    refine JL_appendU (L := _) 2 3 (t % 1000000000) sl22 rfl rfl rfl rfl (by omega) (by omega) (by omega) (fun ad35 cap35 hc35 => ?_)
    refine JL_dropAt 3 ?_
    refine JL_norm _ [box _ _ [_], box _ _ [_], osl _ _ _ _ _ _] [_] rfl rfl rfl ?_
    refine JL_assign rfl ?_
    refine JL_done_up 57 [box _ _ [_], box _ _ [_], osl _ _ _ _ _ _] [_] rfl rfl (by simp only [nrmF]; rfl) rfl rfl ?_
    refine JC_region ?_
    refine JL_move rfl ?_
    refine JL_quo_to rfl rfl (by omega) (IntWalk.u64_quo _ _ (by omega)) ?_
    refine JL_assign rfl ?_
    refine JL_nil_up 57 [box _ _ [_], box _ _ [_], osl _ _ _ _ _ _] [_] rfl rfl (by simp only [nrmF]; rfl) rfl rfl ?_
    refine JE_block_normal ?_
    refine JE_then ?_
    refine JC_region ?_
    refine JL_move rfl ?_
    refine JL_add_to rfl rfl (IntWalk.i64_in _ (by omega)) ?_
    refine JL_assign rfl ?_
    refine JL_nil_up 57 [box _ _ [_], box _ _ [_], osl _ _ _ _ _ _] [_] rfl rfl (by simp only [nrmF]; rfl) rfl rfl ?_
    refine JE_nextS (k + 1, out ++ [t % 1000000000], t / 1000000000, ad35, cap35) (by kernel_rfl) ?_ ?_ (by kernel_rfl) ?_
    · exact ⟨by omega, by rw [len_snoc]; omega, dig_snoc hd (Nat.mod_lt _ (by decide)), by omega, limbs_step ho hv ht, by omega, by omega⟩
    · first | omega | (dsimp only; omega)
    · exact subset_app subset_nil ss0
  · refine JL_move rfl ?_
    refine JL_guard_yes rfl rfl ?_
    refine JL_move rfl ?_
    refine JL_guard_yes rfl rfl ?_
    refine JL_gtr rfl rfl ?_
    refine JL_split (fun h13 => ?_) (fun h13 => ?_)
    · refine JL_pick_f rfl rfl ?_
      refine JL_done_up 57 [box _ _ [_], box _ _ [_], osl _ _ _ _ _ _] [_] rfl rfl (by simp only [nrmF]; rfl) rfl rfl ?_
      refine JC_true rfl ?_
      refine JC_skip ?_
      refine JE_then ?_
      refine JC_seq ?_
      refine JC_block ?_
      refine JC_seq ?_
      refine JC_seq ?_
      refine JC_region ?_
      refine JL_move rfl ?_
      refine JL_fieldAddr fo24_0 rfl ?_
      refine JL_load 0 ty22 rfl rfl rfl ?_
      refine JL_len sl22 rfl ?_
      refine JL_lss rfl rfl ?_
      refine JL_done_up 57 [box _ _ [_], box _ _ [_], osl _ _ _ _ _ _] [_] rfl rfl (by simp only [nrmF]; rfl) rfl rfl ?_
      refine JC_cutT ((Nat)) (fun (t : Nat) => t = c + L1.getD k 0) (fun u (t : Nat) => [none, none, none, none, some (.int .u64 (t : Nat)), none, none, none, none, none, none, none, none, none, none, none, none, none, none, none, none, none, some (u 22), some (u 23), some (u 24), some (u 25), some (u 26), some (u 27), some (u 28), some (u 29), none, none, none, none, none, none, none, none, none, none, none, none, none, none, none, none, none, none, none, none, none, none, none, none, none, none, none]) (fun (t : Nat) => [none, none, none]) (fun (t : Nat) => []) ?_ ?_
      · refine JC_cond rfl (fun hb => ?_) (fun hb => ?_)
        · have h21 := of_decide_eq_true hb
          refine JC_region ?_
          refine JL_move rfl ?_
          refine JL_fieldAddr fo24_0 rfl ?_
          refine JL_load 0 ty22 rfl rfl rfl ?_
          refine JL_move rfl ?_
          refine JL_idx k sl22 rfl rfl rfl (by omega) (by first | exact Reads.view (by repeat (first | with_reducible exact mm0 | refine mmS ?_)) | (exact Reads.own 2 rfl)) (by first | (rw [u32s_length]; omega) | (rw [i64s_length]; omega)) ?_
          refine JL_loadE ty87 rfl (by first | exact Reads.view (by repeat (first | with_reducible exact mm0 | refine mmS ?_)) | (exact Reads.own 2 rfl)) (u32s_get (by omega)) ?_
          refine JL_convInt us87 it94 rfl (IntWalk.u64_in _ (by omega)) ?_
          refine JL_add_to rfl rfl (IntWalk.u64_in _ (by omega)) ?_
          refine JL_assign rfl ?_
          refine JL_nil_up 57 [box _ _ [_], box _ _ [_], osl _ _ _ _ _ _] [_] rfl rfl (by simp only [nrmF]; rfl) rfl rfl ?_
          refine JE_midS (c + L1.getD k 0) (by kernel_rfl) ?_ (by kernel_rfl) ?_
          · exact rfl
          · exact subset_app subset_nil ss0
        · have h21 := of_decide_eq_false hb
          refine JC_skip ?_
          refine JE_midS (c) (by kernel_rfl) ?_ (by kernel_rfl) ?_
          · show _ = _ + _; rw [getD_of_ge L1 k (by omega)]; omega
          · exact subset_app subset_nil ss0
      intro u t ht
      refine JC_norm ⟨57, [], [_, _, _, _, _, _, _, _, _, _, _, _, _, _, _, _, _, _, _, _, _, _, _, _, _, _, _, _, _, _, _, _, _, _, _, _, _, _, _, _, _, _, _, _, _, _, _, _, _, _, _, _, _, _, _, _, _]⟩ [box _ _ [_], box _ _ [_], osl _ _ _ _ _ _] [_] rfl rfl rfl ?_
      refine JC_seq ?_
      refine JC_region ?_
      refine JL_move rfl ?_
      refine JL_move rfl ?_
      refine JL_rem_to rfl rfl (by omega) (IntWalk.rem_in _ _ (by omega)) ?_
      refine JL_convInt us94 it87 rfl (IntWalk.u32_in _ (by omega)) ?_
      refine JL_build1 sl22 rfl rfl (fun g34 => ?_)
      refine JL_appendU (L := _) 2 3 (t % 1000000000) sl22 rfl rfl rfl rfl (by omega) (by omega) (by omega) (fun ad35 cap35 hc35 => ?_)
      refine JL_dropAt 3 ?_
      refine JL_norm _ [box _ _ [_], box _ _ [_], osl _ _ _ _ _ _] [_] rfl rfl rfl ?_
      refine JL_assign rfl ?_
      refine JL_done_up 57 [box _ _ [_], box _ _ [_], osl _ _ _ _ _ _] [_] rfl rfl (by simp only [nrmF]; rfl) rfl rfl ?_
      refine JC_region ?_
      refine JL_move rfl ?_
      refine JL_quo_to rfl rfl (by omega) (IntWalk.u64_quo _ _ (by omega)) ?_
      refine JL_assign rfl ?_
      refine JL_nil_up 57 [box _ _ [_], box _ _ [_], osl _ _ _ _ _ _] [_] rfl rfl (by simp only [nrmF]; rfl) rfl rfl ?_
      refine JE_block_normal ?_
      refine JE_then ?_
      refine JC_region ?_
      refine JL_move rfl ?_
      refine JL_add_to rfl rfl (IntWalk.i64_in _ (by omega)) ?_
      refine JL_assign rfl ?_
      refine JL_nil_up 57 [box _ _ [_], box _ _ [_], osl _ _ _ _ _ _] [_] rfl rfl (by simp only [nrmF]; rfl) rfl rfl ?_
      refine JE_nextS (k + 1, out ++ [t % 1000000000], t / 1000000000, ad35, cap35) (by kernel_rfl) ?_ ?_ (by kernel_rfl) ?_
      · exact ⟨by omega, by rw [len_snoc]; omega, dig_snoc hd (Nat.mod_lt _ (by decide)), by omega, limbs_step ho hv ht, by omega, by omega⟩
      · first | omega | (dsimp only; omega)
      · exact subset_app subset_nil ss0
    · refine JL_pick_f rfl rfl ?_
      refine JL_done_up 57 [box _ _ [_], box _ _ [_], osl _ _ _ _ _ _] [_] rfl rfl (by simp only [nrmF]; rfl) rfl rfl ?_
      refine JC_false rfl ?_
      refine JC_exit ?_
      refine JE_then_exit ?_
      refine JE_nextS_exit ?_
      refine JE_block_exit ?_
      refine JE_then ?_
      refine JC_seq ?_
      refine JC_block ?_
      have hvv : val out = x1 := by
        obtain rfl : c = 0 := by omega
        rw [Nat.mul_zero, Nat.add_zero, List.take_of_length_le (by omega)] at hv
        rw [hv, hx1]
      refine JC_give 2 rfl ?_
      refine JC_norm ⟨57, [], [_, _, _, _, _, _, _, _, _, _, _, _, _, _, _, _, _, _, _, _, _, _, _, _, _, _, _, _, _, _, _, _, _, _, _, _, _, _, _, _, _, _, _, _, _, _, _, _, _, _, _, _, _, _, _, _, _]⟩ [box _ _ [_], box _ _ [_]] [_, _] rfl rfl rfl ?_
      refine JC_loopS ((Nat)) (fun (m : Nat) => m ≤ out.length ∧ trimL (out.take m) = trimL out) (fun (m : Nat) => m) (fun u (m : Nat) => [none, none, none, some (.slice ad m cap), none, none, none, none, none, none, none, none, none, none, none, none, none, none, none, none, none, none, none, none, none, none, none, none, none, none, none, none, none, none, none, none, none, none, some (u 38), some (u 39), some (u 40), some (u 41), some (u 42), some (u 43), some (u 44), some (u 45), some (u 46), some (u 47), some (u 48), some (u 49), some (u 50), some (u 51), some (u 52), some (u 53), some (u 54), none, none]) (fun (m : Nat) => [none, none]) (fun (m : Nat) => []) (k) (by kernel_rfl) ?_ (by kernel_rfl) ?_ ?_
      · exact ⟨by omega, by rw [List.take_of_length_le (by omega)]⟩
      · exact subset_nil
      intro u m hC
      obtain ⟨hmL, hT⟩ := hC
      refine JC_norm ⟨57, [], [_, _, _, _, _, _, _, _, _, _, _, _, _, _, _, _, _, _, _, _, _, _, _, _, _, _, _, _, _, _, _, _, _, _, _, _, _, _, _, _, _, _, _, _, _, _, _, _, _, _, _, _, _, _, _, _, _]⟩ [box _ _ [_], box _ _ [_]] [_, _] rfl rfl rfl ?_
      refine JC_seq ?_
      refine JC_seq ?_
      refine JC_region ?_
      refine JL_move rfl ?_
      refine JL_len sl22 rfl ?_
      refine JL_gtr rfl rfl ?_
      refine JL_split (fun h40 => ?_) (fun h40 => ?_)
      · refine JL_move rfl ?_
        refine JL_guard_yes rfl rfl ?_
        refine JL_move rfl ?_
        refine JL_guard_yes rfl rfl ?_
        refine JL_move rfl ?_
        refine JL_guard_yes rfl rfl ?_
        refine JL_len sl22 rfl ?_
        refine JL_guard_yes rfl rfl ?_
        refine JL_sub_to rfl rfl (IntWalk.i64_in _ (by omega)) ?_
        refine JL_guard_yes rfl rfl ?_
        refine JL_idx (m - 1) sl22 rfl rfl (by omega) (by omega) (Reads.view List.mem_cons_self) (by first | (rw [u32s_length]; omega) | (rw [i64s_length]; omega)) ?_
        refine JL_guard_yes rfl rfl ?_
        refine JL_loadE ty87 rfl (Reads.view List.mem_cons_self) (u32s_get (by omega)) ?_
        refine JL_guard_yes rfl rfl ?_
        refine JL_eql rfl rfl ?_
        refine JL_split (fun h48 => ?_) (fun h48 => ?_)
        · refine JL_pick_t rfl rfl ?_
          refine JL_done_up 57 [box _ _ [_], box _ _ [_]] [_, _] rfl rfl (by simp only [nrmF]; rfl) rfl rfl ?_
          refine JC_true rfl ?_
          refine JC_skip ?_
          refine JE_then ?_
          refine JC_block ?_
          refine JC_region ?_
          refine JL_move rfl ?_
          refine JL_move rfl ?_
          refine JL_len sl22 rfl ?_
          refine JL_sub_to rfl rfl (IntWalk.i64_in _ (by omega)) ?_
          refine JL_sliceTo (m - 1) sl22 rfl rfl (by omega) (by omega) ?_
          refine JL_assign rfl ?_
          refine JL_nil_up 57 [box _ _ [_], box _ _ [_]] [_, _] rfl rfl (by simp only [nrmF]; rfl) rfl rfl ?_
          refine JE_block_normal ?_
          refine JE_nextS (m - 1) (by kernel_rfl) ?_ ?_ (by kernel_rfl) ?_
          · exact ⟨by omega, by rw [← hT]; have h := trimL_take out (m - 1) (by omega) (by omega); rw [Nat.sub_add_cancel (by omega)] at h; exact h.symm⟩
          · first | omega | (dsimp only; omega)
          · exact subset_app subset_nil ss0
        · refine JL_pick_t rfl rfl ?_
          refine JL_done_up 57 [box _ _ [_], box _ _ [_]] [_, _] rfl rfl (by simp only [nrmF]; rfl) rfl rfl ?_
          refine JC_false rfl ?_
          refine JC_exit ?_
          refine JE_then_exit ?_
          refine JE_nextS_exit ?_
          refine JE_block_exit ?_
          refine JE_then ?_
          refine JC_seq ?_
          refine JC_region ?_
          refine JL_move rfl ?_
          refine JL_build (cs := [_]) [(0, [_])] st24 ⟨⟨rfl, _, rfl, rfl⟩, rfl⟩ rfl ?_
          refine JL_store (vs := [_]) 1 ty24 rfl rfl rfl (AllOne.cons rfl AllOne.nil) rfl (Nat.le_of_ble_eq_true rfl) ?_
          refine JL_done_up 57 [box _ _ [_], box _ _ [_]] [_, _] rfl rfl (by simp only [nrmF]; rfl) rfl rfl ?_
          refine JC_ret ?_
          have hfin : limbsOf x1 = out.take m := by
            rw [← hvv, ← trimL_spec out hd, ← hT]
            rcases Nat.eq_zero_or_pos m with h0 | h0
            · rw [h0]; rfl
            · have h := trimL_stop out (m - 1) (by omega) (by omega)
              rwa [Nat.sub_add_cancel h0] at h
          have hlen : (limbsOf x1).length = m := by rw [hfin, List.length_take]; omega
          refine JE_viewTake m List.mem_cons_self ?_
          rw [u32s_take, ← hfin]
          refine JE_ret (vs := [_]) [vCells ad (u32s (limbsOf x1))] Tryd.results94 ⟨RV.cell (vs := [_]) 1 ty24 rfl rfl ⟨rfl, trivial⟩, rfl⟩ ?_ ?_
          · exact ⟨ad, cap, by rw [hlen]; rfl, by omega, hm, rfl⟩
          · exact (all_cons (by repeat (first | with_reducible exact mm0 | refine mmS ?_)) all_nil)
      · refine JL_move rfl ?_
        refine JL_guard_no rfl rfl ?_
        refine JL_guard_no rfl rfl ?_
        refine JL_guard_no rfl rfl ?_
        refine JL_guard_no rfl rfl ?_
        refine JL_guard_no rfl rfl ?_
        refine JL_guard_no rfl rfl ?_
        refine JL_guard_no rfl rfl ?_
        refine JL_pick_f rfl rfl ?_
        refine JL_done_up 57 [box _ _ [_], box _ _ [_]] [_, _] rfl rfl (by simp only [nrmF]; rfl) rfl rfl ?_
        refine JC_false rfl ?_
        refine JC_exit ?_
        refine JE_then_exit ?_
        refine JE_nextS_exit ?_
        refine JE_block_exit ?_
        refine JE_then ?_
        refine JC_seq ?_
        refine JC_region ?_
        refine JL_move rfl ?_
        refine JL_build (cs := [_]) [(0, [_])] st24 ⟨⟨rfl, _, rfl, rfl⟩, rfl⟩ rfl ?_
        refine JL_store (vs := [_]) 1 ty24 rfl rfl rfl (AllOne.cons rfl AllOne.nil) rfl (Nat.le_of_ble_eq_true rfl) ?_
        refine JL_done_up 57 [box _ _ [_], box _ _ [_]] [_, _] rfl rfl (by simp only [nrmF]; rfl) rfl rfl ?_
        refine JC_ret ?_
        have hfin : limbsOf x1 = out.take m := by
          rw [← hvv, ← trimL_spec out hd, ← hT]
          rcases Nat.eq_zero_or_pos m with h0 | h0
          · rw [h0]; rfl
          · have h := trimL_stop out (m - 1) (by omega) (by omega)
            rwa [Nat.sub_add_cancel h0] at h
        have hlen : (limbsOf x1).length = m := by rw [hfin, List.length_take]; omega
        refine JE_viewTake m List.mem_cons_self ?_
        rw [u32s_take, ← hfin]
        refine JE_ret (vs := [_]) [vCells ad (u32s (limbsOf x1))] Tryd.results94 ⟨RV.cell (vs := [_]) 1 ty24 rfl rfl ⟨rfl, trivial⟩, rfl⟩ ?_ ?_
        · exact ⟨ad, cap, by rw [hlen]; rfl, by omega, hm, rfl⟩
        · exact (all_cons (by repeat (first | with_reducible exact mm0 | refine mmS ?_)) all_nil)

theorem rof_con (n : Nat) (hn : n < 18446744073709551616) :
    ConF Tryd.prog 99 [.int .u64 (n : Nat)] []
      (LN n) := by
  refine ConF_of Tryd.func99 rfl 17 _ rfl rfl ?_
  intro w0
  refine JC_norm ⟨17, [], [_, _, _, _, _, _, _, _, _, _, _, _, _, _, _, _, _]⟩ [] [] rfl rfl rfl ?_
  refine JC_seq ?_
  refine JC_region ?_
  refine JL_alloc z24 (fun b2 => ?_)
  refine JL_done_up 17 [box _ _ [_]] [] rfl rfl (by simp only [nrmF]; rfl) rfl rfl ?_
  refine JC_seq ?_
  refine JC_region ?_
  refine JL_move rfl ?_
  refine JL_rem_to rfl rfl (by omega) (rem_nat n 1000000000) ?_
  refine JL_convInt us94 it87 rfl (IntWalk.u32_in _ (by omega)) ?_
  refine JL_move rfl ?_
  refine JL_quo_to rfl rfl (by omega) (quo_nat_u64 n 1000000000 (by omega)) ?_
  refine JL_rem_to rfl rfl (by omega) (rem_nat (n / 1000000000) 1000000000) ?_
  refine JL_convInt us94 it87 rfl (IntWalk.u32_in _ (by omega)) ?_
  refine JL_move rfl ?_
  refine JL_quo_to rfl rfl (by omega) (quo_nat_u64 n 1000000000 (by omega)) ?_
  refine JL_quo_to rfl rfl (by omega) (quo_nat_u64 (n / 1000000000) 1000000000 (by omega)) ?_
  refine JL_convInt us94 it87 rfl (IntWalk.u32_in _ (by omega)) ?_
  refine JL_buildN (cs0 := [.int .u32 0, .int .u32 0, .int .u32 0]) (cs := [_, _, _]) [(0, [_]), (1, [_]), (2, [_])] sl22 (by kernel_rfl) ⟨⟨rfl, _, rfl, rfl⟩, ⟨rfl, _, rfl, rfl⟩, ⟨rfl, _, rfl, rfl⟩, rfl⟩ rfl rfl rfl rfl (fun g14 => ?_)
  refine JL_norm _ [box _ _ [_], osl _ _ _ _ _ (u32s ([n % 1000000000, n / 1000000000 % 1000000000, n / 1000000000 / 1000000000]))] [] rfl rfl rfl ?_
  refine JL_build (cs := [_]) [(0, [_])] st24 ⟨⟨rfl, _, rfl, rfl⟩, rfl⟩ rfl ?_
  refine JL_callF' (Asks.cons ((holds_of_own 1 rfl)) Asks.nil) (rnorm_con _ 3 _ _ n ⟨rfl, U32.ofDig (Dig.cons (by omega) (Dig.cons (by omega) (Dig.cons (by omega) Dig.nil))), val_of3 n, by omega⟩) rfl ca94 ⟨rfl, rfl⟩ ?_
  rintro _ _ ⟨ad16, cap16, rfl, hk16, hm16, rfl⟩
  refine JL_store (vs := [_]) 0 ty24 rfl rfl rfl (AllOne.cons rfl AllOne.nil) rfl (Nat.le_of_ble_eq_true rfl) ?_
  refine JL_done_up 17 [box _ _ [_], osl _ _ _ _ _ _] [_] rfl rfl (by simp only [nrmF]; rfl) rfl rfl ?_
  refine JC_ret ?_
  refine JE_ret (vs := [_]) [vCells ad16 (u32s (limbsOf (n)))] Tryd.results99 ⟨RV.cell (vs := [_]) 0 ty24 rfl rfl ⟨rfl, trivial⟩, rfl⟩ ?_ ?_
  · exact ⟨ad16, cap16, rfl, hk16, hm16, rfl⟩
  · exact (all_cons (by repeat (first | with_reducible exact mm0 | refine mmS ?_)) all_nil)

end Go.Fw.K
