/- Walks through functions of the given program: each meets its contract. (Printed by a program of this repo.) -/
import Derived.Test.YtgnljjdcbfijnaaDoorFwC
import Derived.Test.YtgnljjdcbfijnaaDoorProg
namespace Go.Fw.V
open Go Go.RowKit Go.Proofs Go.Nat9 Go.Fw
attribute [local irreducible] JC JL JE
theorem ca79 : callable Tryd.prog 79 = true := by kernel_rfl
theorem ca80 : callable Tryd.prog 80 = true := by kernel_rfl
theorem ca94 : callable Tryd.prog 94 = true := by kernel_rfl
theorem ca95 : callable Tryd.prog 95 = true := by kernel_rfl
theorem ca96 : callable Tryd.prog 96 = true := by kernel_rfl
theorem ca97 : callable Tryd.prog 97 = true := by kernel_rfl
theorem fo33_0 : fOf Tryd.prog 33 0 = some 0 := by kernel_rfl
theorem it101 : intTy Tryd.prog 101 = some .u32 := by kernel_rfl
theorem it2 : intTy Tryd.prog 2 = some .i64 := by kernel_rfl
theorem it87 : intTy Tryd.prog 87 = some .u64 := by kernel_rfl
theorem mixed : Tryd.prog.follows .mixedOrders = true := by kernel_rfl
theorem sl31 : slOf Tryd.prog 31 = some (101, 1, 4, [.int .u32 0]) := by kernel_rfl
theorem st33 : stOf Tryd.prog 33 = some ([(0, 1)], [.slice none 0 0]) := by kernel_rfl
theorem ty101 : tyOf Tryd.prog 101 = some (false, 1) := by kernel_rfl
theorem ty31 : tyOf Tryd.prog 31 = some (false, 1) := by kernel_rfl
theorem ty33 : tyOf Tryd.prog 33 = some (true, 1) := by kernel_rfl
theorem us101 : (Tryd.prog.underlying 101).isSome = true := by kernel_rfl
theorem us2 : (Tryd.prog.underlying 2).isSome = true := by kernel_rfl
theorem us87 : (Tryd.prog.underlying 87).isSome = true := by kernel_rfl
theorem z33 : zeroOf Tryd.prog 33 = some [.slice none 0 0] := by kernel_rfl
end Go.Fw.V
namespace Go.Fw.K
open Go Go.RowKit Go.Proofs Go.Nat9 Go.Fw Go.Fw.V
attribute [local irreducible] JC JL JE

theorem rnorm_con (ad1 : Option Addr) (n1 c1 : Nat) (L1 : List Nat) (x1 : Nat) (g1 : NIn n1 L1 x1 1000000000) :
    ConF Tryd.prog 95 [.agg #[.slice ad1 n1 c1]] [vCells ad1 (u32s L1)]
      (LN x1) := by
  obtain ⟨rfl, hu, hx1, hb⟩ := g1
  refine ConF_of Tryd.func95 rfl 57 _ rfl rfl ?_
  intro w0
  refine JC_norm ⟨57, [], [_, _, _, _, _, _, _, _, _, _, _, _, _, _, _, _, _, _, _, _, _, _, _, _, _, _, _, _, _, _, _, _, _, _, _, _, _, _, _, _, _, _, _, _, _, _, _, _, _, _, _, _, _, _, _, _, _]⟩ [] [_] rfl rfl rfl ?_
  refine JC_seq ?_
  refine JC_region ?_
  refine JL_box rfl rfl (fun b1 => ?_)
  refine JL_alloc z33 (fun b2 => ?_)
  refine JL_done_up 57 [box _ _ [_], box _ _ [_]] [_] rfl rfl (by simp only [nrmF]; rfl) rfl rfl ?_
  refine JC_seq ?_
  refine JC_region ?_
  refine JL_assign rfl ?_
  refine JL_done_up 57 [box _ _ [_], box _ _ [_]] [_] rfl rfl (by simp only [nrmF]; rfl) rfl rfl ?_
  refine JC_seq ?_
  refine JC_region ?_
  refine JL_assign rfl ?_
  refine JL_done_up 57 [box _ _ [_], box _ _ [_]] [_] rfl rfl (by simp only [nrmF]; rfl) rfl rfl ?_
  refine JC_seq ?_
  refine JC_seq ?_
  refine JC_region ?_
  refine JL_assign rfl ?_
  refine JL_done_up 57 [box _ _ [_], box _ _ [_]] [_] rfl rfl (by simp only [nrmF]; rfl) rfl rfl ?_
  refine JC_block ?_
  refine JC_addNil 101 1 ?_
  refine JC_norm ⟨57, [], [_, _, _, _, _, _, _, _, _, _, _, _, _, _, _, _, _, _, _, _, _, _, _, _, _, _, _, _, _, _, _, _, _, _, _, _, _, _, _, _, _, _, _, _, _, _, _, _, _, _, _, _, _, _, _, _, _]⟩ [box _ _ [_], box _ _ [_], osl _ _ _ _ _ _] [_] rfl rfl rfl ?_
  refine JC_loopS ((Nat) × (List Nat) × (Nat) × (Option Addr) × (Nat)) (fun (k, out, c, ad, cap) => (k ≤ L1.length ∨ (k = L1.length + 1 ∧ c = 0)) ∧ out.length = k ∧ Dig out ∧ c ≤ 4 ∧ val out + 1000000000 ^ k * c = val (L1.take k) ∧ k ≤ cap ∧ cap ≤ 9223372036854775807) (fun (k, out, c, ad, cap) => L1.length + 1 - k) (fun u (k, out, c, ad, cap) => [none, none, none, some (.slice ad k cap), some (.int .u64 (c : Nat)), some (.int .i64 (k : Nat)), some (u 6), some (u 7), some (u 8), some (u 9), some (u 10), some (u 11), some (u 12), some (u 13), some (u 14), some (u 15), some (u 16), some (u 17), some (u 18), some (u 19), some (u 20), some (u 21), some (u 22), some (u 23), some (u 24), some (u 25), some (u 26), some (u 27), some (u 28), some (u 29), some (u 30), some (u 31), some (u 32), some (u 33), some (u 34), some (u 35), some (u 36), some (u 37), none, none, none, none, none, none, none, none, none, none, none, none, none, none, none, none, none, none, none]) (fun (k, out, c, ad, cap) => [none, none, some (osl ad k cap 101 1 (u32s out))]) (fun (k, out, c, ad, cap) => []) (0, [], 0, none, 0) (by kernel_rfl) ?_ (by kernel_rfl) ?_ ?_
  · exact ⟨.inl (Nat.zero_le _), rfl, Dig.nil, by omega, by simp [val], by omega, by omega⟩
  · exact subset_nil
  intro u i hC
  obtain ⟨k, out, c, ad, cap⟩ := i
  obtain ⟨hk, ho, hd, hc, hv, hcap, hm⟩ := hC
  refine JC_norm ⟨57, [], [_, _, _, _, _, _, _, _, _, _, _, _, _, _, _, _, _, _, _, _, _, _, _, _, _, _, _, _, _, _, _, _, _, _, _, _, _, _, _, _, _, _, _, _, _, _, _, _, _, _, _, _, _, _, _, _, _]⟩ [box _ _ [_], box _ _ [_], osl _ _ _ _ _ _] [_] rfl rfl rfl ?_
  have hx := hu.getD k
  have hz : L1.length ≤ k → L1.getD k 0 = 0 := getD_of_ge L1 k
  refine JC_seq ?_
  refine JC_seq ?_
  refine JC_region ?_
  refine JL_move rfl ?_
  refine JL_fieldAddr fo33_0 rfl ?_
  refine JL_load 0 ty31 rfl rfl rfl ?_
  refine JL_len sl31 rfl ?_
  refine JL_lss rfl rfl ?_
  refine JL_split (fun h10 => ?_) (fun h10 => ?_)
  · refine JL_move rfl ?_
    refine JL_guard_no rfl rfl ?_
    refine JL_guard_no rfl rfl ?_
    refine JL_pick_t rfl rfl ?_
    refine JL_done_up 57 [box _ _ [_], box _ _ [_], osl _ _ _ _ _ _] [_] rfl rfl (by simp only [nrmF]; rfl) rfl rfl ?_
    refine JC_true rfl ?_
    refine JC_skip ?_
    refine JE_then ?_
    refine JC_seq ?_
    refine JC_block ?_
    refine JC_seq ?_
    refine JC_seq ?_
    refine JC_region ?_
    refine JL_move rfl ?_
    refine JL_fieldAddr fo33_0 rfl ?_
    refine JL_load 0 ty31 rfl rfl rfl ?_
    refine JL_len sl31 rfl ?_
    refine JL_lss rfl rfl ?_
    refine JL_done_up 57 [box _ _ [_], box _ _ [_], osl _ _ _ _ _ _] [_] rfl rfl (by simp only [nrmF]; rfl) rfl rfl ?_
    refine JC_cutT ((Nat)) (fun (t : Nat) => t = c + L1.getD k 0) (fun u (t : Nat) => [none, none, none, none, some (.int .u64 (t : Nat)), none, none, none, none, none, none, none, none, none, none, none, none, none, none, none, none, none, some (u 22), some (u 23), some (u 24), some (u 25), some (u 26), some (u 27), some (u 28), some (u 29), none, none, none, none, none, none, none, none, none, none, none, none, none, none, none, none, none, none, none, none, none, none, none, none, none, none, none]) (fun (t : Nat) => [none, none, none]) (fun (t : Nat) => []) ?_ ?_
    · refine JC_cond rfl (fun hb => ?_) (fun hb => ?_)
      · have h21 := of_decide_eq_true hb
        refine JC_region ?_
        refine JL_move rfl ?_
        refine JL_fieldAddr fo33_0 rfl ?_
        refine JL_load 0 ty31 rfl rfl rfl ?_
        refine JL_move rfl ?_
        refine JL_idx k sl31 rfl rfl rfl (by omega) (by first | exact Reads.view (by repeat (first | with_reducible exact mm0 | refine mmS ?_)) | (exact Reads.own 2 rfl)) (by first | (rw [u32s_length]; omega) | (rw [i64s_length]; omega)) ?_
        refine JL_loadE ty101 rfl (by first | exact Reads.view (by repeat (first | with_reducible exact mm0 | refine mmS ?_)) | (exact Reads.own 2 rfl)) (u32s_get (by omega)) ?_
        refine JL_convInt us101 it87 rfl (IntWalk.u64_in _ (by omega)) ?_
        refine JL_add_to rfl rfl (IntWalk.u64_in _ (by omega)) ?_
        refine JL_assign rfl ?_
        refine JL_nil_up 57 [box _ _ [_], box _ _ [_], osl _ _ _ _ _ _] [_] rfl rfl (by simp only [nrmF]; rfl) rfl rfl ?_
        refine JE_midS (c + L1.getD k 0) (by kernel_rfl) ?_ (by kernel_rfl) ?_
        · exact rfl
        · exact subset_app subset_nil ss0
      · have h21 := of_decide_eq_false hb
        refine JC_skip ?_
        refine JE_midS (c) (by kernel_rfl) ?_ (by kernel_rfl) ?_
        · show _ = _ + _; rw [getD_of_ge L1 k (by omega)]; omega
        · exact subset_app subset_nil ss0
    intro u t ht
    refine JC_norm ⟨57, [], [_, _, _, _, _, _, _, _, _, _, _, _, _, _, _, _, _, _, _, _, _, _, _, _, _, _, _, _, _, _, _, _, _, _, _, _, _, _, _, _, _, _, _, _, _, _, _, _, _, _, _, _, _, _, _, _, _]⟩ [box _ _ [_], box _ _ [_], osl _ _ _ _ _ _] [_] rfl rfl rfl ?_
    refine JC_seq ?_
    refine JC_region ?_
    refine JL_move rfl ?_
    refine JL_move rfl ?_
    refine JL_rem_to rfl rfl (by omega) (IntWalk.rem_in _ _ (by omega)) ?_
    refine JL_convInt us87 it101 rfl (IntWalk.u32_in _ (by omega)) ?_
    refine JL_build1 sl31 rfl rfl (fun g34 => ?_)
    refine JL_appendU (L := _) 2 3 (t % 1000000000) sl31 rfl rfl rfl rfl (by omega) (by omega) (by omega) (fun ad35 cap35 hc35 => ?_)
    refine JL_dropAt 3 ?_
    refine JL_norm _ [box _ _ [_], box _ _ [_], osl _ _ _ _ _ _] [_] rfl rfl rfl ?_
    refine JL_assign rfl ?_
    refine JL_done_up 57 [box _ _ [_], box _ _ [_], osl _ _ _ _ _ _] [_] rfl rfl (by simp only [nrmF]; rfl) rfl rfl ?_
    refine JC_region ?_
    refine JL_move rfl ?_
    refine JL_quo_to rfl rfl (by omega) (IntWalk.u64_quo _ _ (by omega)) ?_
    refine JL_assign rfl ?_
    refine JL_nil_up 57 [box _ _ [_], box _ _ [_], osl _ _ _ _ _ _] [_] rfl rfl (by simp only [nrmF]; rfl) rfl rfl ?_
    refine JE_block_normal ?_
    refine JE_then ?_
    refine JC_region ?_
    refine JL_move rfl ?_
    refine JL_add_to rfl rfl (IntWalk.i64_in _ (by omega)) ?_
    refine JL_assign rfl ?_
    refine JL_nil_up 57 [box _ _ [_], box _ _ [_], osl _ _ _ _ _ _] [_] rfl rfl (by simp only [nrmF]; rfl) rfl rfl ?_
    refine JE_nextS (k + 1, out ++ [t % 1000000000], t / 1000000000, ad35, cap35) (by kernel_rfl) ?_ ?_ (by kernel_rfl) ?_
    · exact ⟨by omega, by rw [len_snoc]; omega, dig_snoc hd (Nat.mod_lt _ (by decide)), by omega, limbs_step ho hv ht, by omega, by omega⟩
    · first | omega | (dsimp only; omega)
    · exact subset_app subset_nil ss0
  · refine JL_move rfl ?_
    refine JL_guard_yes rfl rfl ?_
    refine JL_move rfl ?_
    refine JL_guard_yes rfl rfl ?_
    refine JL_gtr rfl rfl ?_
    refine JL_split (fun h13 => ?_) (fun h13 => ?_)
    · refine JL_pick_f rfl rfl ?_
      refine JL_done_up 57 [box _ _ [_], box _ _ [_], osl _ _ _ _ _ _] [_] rfl rfl (by simp only [nrmF]; rfl) rfl rfl ?_
      refine JC_true rfl ?_
      refine JC_skip ?_
      refine JE_then ?_
      refine JC_seq ?_
      refine JC_block ?_
      refine JC_seq ?_
      refine JC_seq ?_
      refine JC_region ?_
      refine JL_move rfl ?_
      refine JL_fieldAddr fo33_0 rfl ?_
      refine JL_load 0 ty31 rfl rfl rfl ?_
      refine JL_len sl31 rfl ?_
      refine JL_lss rfl rfl ?_
      refine JL_done_up 57 [box _ _ [_], box _ _ [_], osl _ _ _ _ _ _] [_] rfl rfl (by simp only [nrmF]; rfl) rfl rfl ?_
      refine JC_cutT ((Nat)) (fun (t : Nat) => t = c + L1.getD k 0) (fun u (t : Nat) => [none, none, none, none, some (.int .u64 (t : Nat)), none, none, none, none, none, none, none, none, none, none, none, none, none, none, none, none, none, some (u 22), some (u 23), some (u 24), some (u 25), some (u 26), some (u 27), some (u 28), some (u 29), none, none, none, none, none, none, none, none, none, none, none, none, none, none, none, none, none, none, none, none, none, none, none, none, none, none, none]) (fun (t : Nat) => [none, none, none]) (fun (t : Nat) => []) ?_ ?_
      · refine JC_cond rfl (fun hb => ?_) (fun hb => ?_)
        · have h21 := of_decide_eq_true hb
          refine JC_region ?_
          refine JL_move rfl ?_
          refine JL_fieldAddr fo33_0 rfl ?_
          refine JL_load 0 ty31 rfl rfl rfl ?_
          refine JL_move rfl ?_
          refine JL_idx k sl31 rfl rfl rfl (by omega) (by first | exact Reads.view (by repeat (first | with_reducible exact mm0 | refine mmS ?_)) | (exact Reads.own 2 rfl)) (by first | (rw [u32s_length]; omega) | (rw [i64s_length]; omega)) ?_
          refine JL_loadE ty101 rfl (by first | exact Reads.view (by repeat (first | with_reducible exact mm0 | refine mmS ?_)) | (exact Reads.own 2 rfl)) (u32s_get (by omega)) ?_
          refine JL_convInt us101 it87 rfl (IntWalk.u64_in _ (by omega)) ?_
          refine JL_add_to rfl rfl (IntWalk.u64_in _ (by omega)) ?_
          refine JL_assign rfl ?_
          refine JL_nil_up 57 [box _ _ [_], box _ _ [_], osl _ _ _ _ _ _] [_] rfl rfl (by simp only [nrmF]; rfl) rfl rfl ?_
          refine JE_midS (c + L1.getD k 0) (by kernel_rfl) ?_ (by kernel_rfl) ?_
          · exact rfl
          · exact subset_app subset_nil ss0
        · have h21 := of_decide_eq_false hb
          refine JC_skip ?_
          refine JE_midS (c) (by kernel_rfl) ?_ (by kernel_rfl) ?_
          · show _ = _ + _; rw [getD_of_ge L1 k (by omega)]; omega
          · exact subset_app subset_nil ss0
      intro u t ht
      refine JC_norm ⟨57, [], [_, _, _, _, _, _, _, _, _, _, _, _, _, _, _, _, _, _, _, _, _, _, _, _, _, _, _, _, _, _, _, _, _, _, _, _, _, _, _, _, _, _, _, _, _, _, _, _, _, _, _, _, _, _, _, _, _]⟩ [box _ _ [_], box _ _ [_], osl _ _ _ _ _ _] [_] rfl rfl rfl ?_
      refine JC_seq ?_
      refine JC_region ?_
      refine JL_move rfl ?_
      refine JL_move rfl ?_
      refine JL_rem_to rfl rfl (by omega) (IntWalk.rem_in _ _ (by omega)) ?_
      refine JL_convInt us87 it101 rfl (IntWalk.u32_in _ (by omega)) ?_
      refine JL_build1 sl31 rfl rfl (fun g34 => ?_)
      refine JL_appendU (L := _) 2 3 (t % 1000000000) sl31 rfl rfl rfl rfl (by omega) (by omega) (by omega) (fun ad35 cap35 hc35 => ?_)
      refine JL_dropAt 3 ?_
      refine JL_norm _ [box _ _ [_], box _ _ [_], osl _ _ _ _ _ _] [_] rfl rfl rfl ?_
      refine JL_assign rfl ?_
      refine JL_done_up 57 [box _ _ [_], box _ _ [_], osl _ _ _ _ _ _] [_] rfl rfl (by simp only [nrmF]; rfl) rfl rfl ?_
      refine JC_region ?_
      refine JL_move rfl ?_
      refine JL_quo_to rfl rfl (by omega) (IntWalk.u64_quo _ _ (by omega)) ?_
      refine JL_assign rfl ?_
      refine JL_nil_up 57 [box _ _ [_], box _ _ [_], osl _ _ _ _ _ _] [_] rfl rfl (by simp only [nrmF]; rfl) rfl rfl ?_
      refine JE_block_normal ?_
      refine JE_then ?_
      refine JC_region ?_
      refine JL_move rfl ?_
      refine JL_add_to rfl rfl (IntWalk.i64_in _ (by omega)) ?_
      refine JL_assign rfl ?_
      refine JL_nil_up 57 [box _ _ [_], box _ _ [_], osl _ _ _ _ _ _] [_] rfl rfl (by simp only [nrmF]; rfl) rfl rfl ?_
      refine JE_nextS (k + 1, out ++ [t % 1000000000], t / 1000000000, ad35, cap35) (by kernel_rfl) ?_ ?_ (by kernel_rfl) ?_
      · exact ⟨by omega, by rw [len_snoc]; omega, dig_snoc hd (Nat.mod_lt _ (by decide)), by omega, limbs_step ho hv ht, by omega, by omega⟩
      · first | omega | (dsimp only; omega)
      · exact subset_app subset_nil ss0
    · refine JL_pick_f rfl rfl ?_
      refine JL_done_up 57 [box _ _ [_], box _ _ [_], osl _ _ _ _ _ _] [_] rfl rfl (by simp only [nrmF]; rfl) rfl rfl ?_
      refine JC_false rfl ?_
      refine JC_exit ?_
      refine JE_then_exit ?_
      refine JE_nextS_exit ?_
      refine JE_block_exit ?_
      refine JE_then ?_
      refine JC_seq ?_
      refine JC_block ?_
      have hvv : val out = x1 := by
        obtain rfl : c = 0 := by omega
        rw [Nat.mul_zero, Nat.add_zero, List.take_of_length_le (by omega)] at hv
        rw [hv, hx1]
      refine JC_give 2 rfl ?_
      refine JC_norm ⟨57, [], [_, _, _, _, _, _, _, _, _, _, _, _, _, _, _, _, _, _, _, _, _, _, _, _, _, _, _, _, _, _, _, _, _, _, _, _, _, _, _, _, _, _, _, _, _, _, _, _, _, _, _, _, _, _, _, _, _]⟩ [box _ _ [_], box _ _ [_]] [_, _] rfl rfl rfl ?_
      refine JC_loopS ((Nat)) (fun (m : Nat) => m ≤ out.length ∧ trimL (out.take m) = trimL out) (fun (m : Nat) => m) (fun u (m : Nat) => [none, none, none, some (.slice ad m cap), none, none, none, none, none, none, none, none, none, none, none, none, none, none, none, none, none, none, none, none, none, none, none, none, none, none, none, none, none, none, none, none, none, none, some (u 38), some (u 39), some (u 40), some (u 41), some (u 42), some (u 43), some (u 44), some (u 45), some (u 46), some (u 47), some (u 48), some (u 49), some (u 50), some (u 51), some (u 52), some (u 53), some (u 54), none, none]) (fun (m : Nat) => [none, none]) (fun (m : Nat) => []) (k) (by kernel_rfl) ?_ (by kernel_rfl) ?_ ?_
      · exact ⟨by omega, by rw [List.take_of_length_le (by omega)]⟩
      · exact subset_nil
      intro u m hC
      obtain ⟨hmL, hT⟩ := hC
      refine JC_norm ⟨57, [], [_, _, _, _, _, _, _, _, _, _, _, _, _, _, _, _, _, _, _, _, _, _, _, _, _, _, _, _, _, _, _, _, _, _, _, _, _, _, _, _, _, _, _, _, _, _, _, _, _, _, _, _, _, _, _, _, _]⟩ [box _ _ [_], box _ _ [_]] [_, _] rfl rfl rfl ?_
      refine JC_seq ?_
      refine JC_seq ?_
      refine JC_region ?_
      refine JL_move rfl ?_
      refine JL_len sl31 rfl ?_
      refine JL_gtr rfl rfl ?_
      refine JL_split (fun h40 => ?_) (fun h40 => ?_)
      · refine JL_move rfl ?_
        refine JL_guard_yes rfl rfl ?_
        refine JL_move rfl ?_
        refine JL_guard_yes rfl rfl ?_
        refine JL_move rfl ?_
        refine JL_guard_yes rfl rfl ?_
        refine JL_len sl31 rfl ?_
        refine JL_guard_yes rfl rfl ?_
        refine JL_sub_to rfl rfl (IntWalk.i64_in _ (by omega)) ?_
        refine JL_guard_yes rfl rfl ?_
        refine JL_idx (m - 1) sl31 rfl rfl (by omega) (by omega) (Reads.view List.mem_cons_self) (by first | (rw [u32s_length]; omega) | (rw [i64s_length]; omega)) ?_
        refine JL_guard_yes rfl rfl ?_
        refine JL_loadE ty101 rfl (Reads.view List.mem_cons_self) (u32s_get (by omega)) ?_
        refine JL_guard_yes rfl rfl ?_
        refine JL_eql rfl rfl ?_
        refine JL_split (fun h48 => ?_) (fun h48 => ?_)
        · refine JL_pick_t rfl rfl ?_
          refine JL_done_up 57 [box _ _ [_], box _ _ [_]] [_, _] rfl rfl (by simp only [nrmF]; rfl) rfl rfl ?_
          refine JC_true rfl ?_
          refine JC_skip ?_
          refine JE_then ?_
          refine JC_block ?_
          refine JC_region ?_
          refine JL_move rfl ?_
          refine JL_move rfl ?_
          refine JL_len sl31 rfl ?_
          refine JL_sub_to rfl rfl (IntWalk.i64_in _ (by omega)) ?_
          refine JL_sliceTo (m - 1) sl31 rfl rfl (by omega) (by omega) ?_
          refine JL_assign rfl ?_
          refine JL_nil_up 57 [box _ _ [_], box _ _ [_]] [_, _] rfl rfl (by simp only [nrmF]; rfl) rfl rfl ?_
          refine JE_block_normal ?_
          refine JE_nextS (m - 1) (by kernel_rfl) ?_ ?_ (by kernel_rfl) ?_
          · exact ⟨by omega, by rw [← hT]; have h := trimL_take out (m - 1) (by omega) (by omega); rw [Nat.sub_add_cancel (by omega)] at h; exact h.symm⟩
          · first | omega | (dsimp only; omega)
          · exact subset_app subset_nil ss0
        · refine JL_pick_t rfl rfl ?_
          refine JL_done_up 57 [box _ _ [_], box _ _ [_]] [_, _] rfl rfl (by simp only [nrmF]; rfl) rfl rfl ?_
          refine JC_false rfl ?_
          refine JC_exit ?_
          refine JE_then_exit ?_
          refine JE_nextS_exit ?_
          refine JE_block_exit ?_
          refine JE_then ?_
          refine JC_seq ?_
          refine JC_region ?_
          refine JL_move rfl ?_
          refine JL_build (cs := [_]) [(0, [_])] st33 ⟨⟨rfl, _, rfl, rfl⟩, rfl⟩ rfl ?_
          refine JL_store (vs := [_]) 1 ty33 rfl rfl rfl (AllOne.cons rfl AllOne.nil) rfl (Nat.le_of_ble_eq_true rfl) ?_
          refine JL_done_up 57 [box _ _ [_], box _ _ [_]] [_, _] rfl rfl (by simp only [nrmF]; rfl) rfl rfl ?_
          refine JC_ret ?_
          have hfin : limbsOf x1 = out.take m := by
            rw [← hvv, ← trimL_spec out hd, ← hT]
            rcases Nat.eq_zero_or_pos m with h0 | h0
            · rw [h0]; rfl
            · have h := trimL_stop out (m - 1) (by omega) (by omega)
              rwa [Nat.sub_add_cancel h0] at h
          have hlen : (limbsOf x1).length = m := by rw [hfin, List.length_take]; omega
          refine JE_viewTake m List.mem_cons_self ?_
          rw [u32s_take, ← hfin]
          refine JE_ret (vs := [_]) [vCells ad (u32s (limbsOf x1))] Tryd.results95 ⟨RV.cell (vs := [_]) 1 ty33 rfl rfl ⟨rfl, trivial⟩, rfl⟩ ?_ ?_
          · exact ⟨ad, cap, by rw [hlen]; rfl, by omega, hm, rfl⟩
          · exact (all_cons (by repeat (first | with_reducible exact mm0 | refine mmS ?_)) all_nil)
      · refine JL_move rfl ?_
        refine JL_guard_no rfl rfl ?_
        refine JL_guard_no rfl rfl ?_
        refine JL_guard_no rfl rfl ?_
        refine JL_guard_no rfl rfl ?_
        refine JL_guard_no rfl rfl ?_
        refine JL_guard_no rfl rfl ?_
        refine JL_guard_no rfl rfl ?_
        refine JL_pick_f rfl rfl ?_
        refine JL_done_up 57 [box _ _ [_], box _ _ [_]] [_, _] rfl rfl (by simp only [nrmF]; rfl) rfl rfl ?_
        refine JC_false rfl ?_
        refine JC_exit ?_
        refine JE_then_exit ?_
        refine JE_nextS_exit ?_
        refine JE_block_exit ?_
        refine JE_then ?_
        refine JC_seq ?_
        refine JC_region ?_
        refine JL_move rfl ?_
        refine JL_build (cs := [_]) [(0, [_])] st33 ⟨⟨rfl, _, rfl, rfl⟩, rfl⟩ rfl ?_
        refine JL_store (vs := [_]) 1 ty33 rfl rfl rfl (AllOne.cons rfl AllOne.nil) rfl (Nat.le_of_ble_eq_true rfl) ?_
        refine JL_done_up 57 [box _ _ [_], box _ _ [_]] [_, _] rfl rfl (by simp only [nrmF]; rfl) rfl rfl ?_
        refine JC_ret ?_
        have hfin : limbsOf x1 = out.take m := by
          rw [← hvv, ← trimL_spec out hd, ← hT]
          rcases Nat.eq_zero_or_pos m with h0 | h0
          · rw [h0]; rfl
          · have h := trimL_stop out (m - 1) (by omega) (by omega)
            rwa [Nat.sub_add_cancel h0] at h
        have hlen : (limbsOf x1).length = m := by rw [hfin, List.length_take]; omega
        refine JE_viewTake m List.mem_cons_self ?_
        rw [u32s_take, ← hfin]
        refine JE_ret (vs := [_]) [vCells ad (u32s (limbsOf x1))] Tryd.results95 ⟨RV.cell (vs := [_]) 1 ty33 rfl rfl ⟨rfl, trivial⟩, rfl⟩ ?_ ?_
        · exact ⟨ad, cap, by rw [hlen]; rfl, by omega, hm, rfl⟩
        · exact (all_cons (by repeat (first | with_reducible exact mm0 | refine mmS ?_)) all_nil)

theorem rof_con (n : Nat) (hn : n < 18446744073709551616) :
    ConF Tryd.prog 80 [.int .u64 (n : Nat)] []
      (LN n) := by
  refine ConF_of Tryd.func80 rfl 17 _ rfl rfl ?_
  intro w0
  refine JC_norm ⟨17, [], [_, _, _, _, _, _, _, _, _, _, _, _, _, _, _, _, _]⟩ [] [] rfl rfl rfl ?_
  refine JC_seq ?_
  refine JC_region ?_
  refine JL_alloc z33 (fun b2 => ?_)
  refine JL_done_up 17 [box _ _ [_]] [] rfl rfl (by simp only [nrmF]; rfl) rfl rfl ?_
  refine JC_seq ?_
  refine JC_region ?_
  refine JL_move rfl ?_
  refine JL_rem_to rfl rfl (by omega) (rem_nat n 1000000000) ?_
  refine JL_convInt us87 it101 rfl (IntWalk.u32_in _ (by omega)) ?_
  refine JL_move rfl ?_
  refine JL_quo_to rfl rfl (by omega) (quo_nat_u64 n 1000000000 (by omega)) ?_
  refine JL_rem_to rfl rfl (by omega) (rem_nat (n / 1000000000) 1000000000) ?_
  refine JL_convInt us87 it101 rfl (IntWalk.u32_in _ (by omega)) ?_
  refine JL_move rfl ?_
  refine JL_quo_to rfl rfl (by omega) (quo_nat_u64 n 1000000000 (by omega)) ?_
  refine JL_quo_to rfl rfl (by omega) (quo_nat_u64 (n / 1000000000) 1000000000 (by omega)) ?_
  refine JL_convInt us87 it101 rfl (IntWalk.u32_in _ (by omega)) ?_
  refine JL_buildN (cs0 := [.int .u32 0, .int .u32 0, .int .u32 0]) (cs := [_, _, _]) [(0, [_]), (1, [_]), (2, [_])] sl31 (by kernel_rfl) ⟨⟨rfl, _, rfl, rfl⟩, ⟨rfl, _, rfl, rfl⟩, ⟨rfl, _, rfl, rfl⟩, rfl⟩ rfl rfl rfl rfl (fun g14 => ?_)
  refine JL_norm _ [box _ _ [_], osl _ _ _ _ _ (u32s ([n % 1000000000, n / 1000000000 % 1000000000, n / 1000000000 / 1000000000]))] [] rfl rfl rfl ?_
  refine JL_build (cs := [_]) [(0, [_])] st33 ⟨⟨rfl, _, rfl, rfl⟩, rfl⟩ rfl ?_
  refine JL_callF' (Asks.cons ((holds_of_own 1 rfl)) Asks.nil) (rnorm_con _ 3 _ _ n ⟨rfl, U32.ofDig (Dig.cons (by omega) (Dig.cons (by omega) (Dig.cons (by omega) Dig.nil))), val_of3 n, by omega⟩) rfl ca95 ⟨rfl, rfl⟩ ?_
  rintro _ _ ⟨ad16, cap16, rfl, hk16, hm16, rfl⟩
  refine JL_store (vs := [_]) 0 ty33 rfl rfl rfl (AllOne.cons rfl AllOne.nil) rfl (Nat.le_of_ble_eq_true rfl) ?_
  refine JL_done_up 17 [box _ _ [_], osl _ _ _ _ _ _] [_] rfl rfl (by simp only [nrmF]; rfl) rfl rfl ?_
  refine JC_ret ?_
  refine JE_ret (vs := [_]) [vCells ad16 (u32s (limbsOf (n)))] Tryd.results80 ⟨RV.cell (vs := [_]) 0 ty33 rfl rfl ⟨rfl, trivial⟩, rfl⟩ ?_ ?_
  · exact ⟨ad16, cap16, rfl, hk16, hm16, rfl⟩
  · exact (all_cons (by repeat (first | with_reducible exact mm0 | refine mmS ?_)) all_nil)

theorem rcmp_con (ad1 : Option Addr) (n1 c1 : Nat) (L1 : List Nat) (x1 : Nat) (g1 : NIn n1 L1 x1 200000000) (ad2 : Option Addr) (n2 c2 : Nat) (L2 : List Nat) (x2 : Nat) (g2 : NIn n2 L2 x2 200000000) :
    ConF Tryd.prog 94 [.agg #[.slice ad1 n1 c1], .agg #[.slice ad2 n2 c2]] [vCells ad1 (u32s L1), vCells ad2 (u32s L2)]
      (fun v φo => v = .int .i64 (cmpN x1 x2) ∧ φo = []) := by
  have hs1 := g1.sz
  have hl1 := g1.le
  have hs2 := g2.sz
  have hl2 := g2.le
  refine ConF_of Tryd.func94 rfl 54 _ rfl rfl ?_
  intro w0
  refine JC_norm ⟨54, [], [_, _, _, _, _, _, _, _, _, _, _, _, _, _, _, _, _, _, _, _, _, _, _, _, _, _, _, _, _, _, _, _, _, _, _, _, _, _, _, _, _, _, _, _, _, _, _, _, _, _, _, _, _, _]⟩ [] [_, _] rfl rfl rfl ?_
  refine JC_seq ?_
  refine JC_region ?_
  refine JL_box rfl rfl (fun b2 => ?_)
  refine JL_box rfl rfl (fun b3 => ?_)
  refine JL_assign rfl ?_
  refine JL_done_up 54 [box _ _ [_], box _ _ [_]] [_, _] rfl rfl (by simp only [nrmF]; rfl) rfl rfl ?_
  refine JC_seq ?_
  refine JC_region ?_
  refine JL_loadA (vs := [_]) 0 ty33 rfl rfl ⟨rfl, trivial⟩ ?_
  refine JL_callF' (Asks.cons (holds_of_mem (by repeat (first | with_reducible exact mm0 | refine mmS ?_))) Asks.nil) (rnorm_con _ _ _ _ _ (g1.mono (by omega))) rfl ca95 ⟨rfl, rfl⟩ ?_
  rintro _ _ ⟨ad7, cap7, rfl, hk7, hm7, rfl⟩
  refine JL_store (vs := [_]) 0 ty33 rfl rfl rfl (AllOne.cons rfl AllOne.nil) rfl (Nat.le_of_ble_eq_true rfl) ?_
  refine JL_done_up 54 [box _ _ [_], box _ _ [_]] [_, _, _] rfl rfl (by simp only [nrmF]; rfl) rfl rfl ?_
  refine JC_seq ?_
  refine JC_region ?_
  refine JL_loadA (vs := [_]) 1 ty33 rfl rfl ⟨rfl, trivial⟩ ?_
  refine JL_callF' (Asks.cons (holds_of_mem (by repeat (first | with_reducible exact mm0 | refine mmS ?_))) Asks.nil) (rnorm_con _ _ _ _ _ (g2.mono (by omega))) rfl ca95 ⟨rfl, rfl⟩ ?_
  rintro _ _ ⟨ad9, cap9, rfl, hk9, hm9, rfl⟩
  refine JL_store (vs := [_]) 1 ty33 rfl rfl rfl (AllOne.cons rfl AllOne.nil) rfl (Nat.le_of_ble_eq_true rfl) ?_
  refine JL_done_up 54 [box _ _ [_], box _ _ [_]] [_, _, _, _] rfl rfl (by simp only [nrmF]; rfl) rfl rfl ?_
  refine JC_seq ?_
  refine JC_seq ?_
  refine JC_region ?_
  refine JL_fieldAddr fo33_0 rfl ?_
  refine JL_load 0 ty31 rfl rfl rfl ?_
  refine JL_len sl31 rfl ?_
  refine JL_fieldAddr fo33_0 rfl ?_
  refine JL_load 1 ty31 rfl rfl rfl ?_
  refine JL_len sl31 rfl ?_
  refine JL_neq rfl rfl ?_
  refine JL_split (fun h16 => ?_) (fun h16 => ?_)
  · refine JL_done_up 54 [box _ _ [_], box _ _ [_]] [_, _, _, _] rfl rfl (by simp only [nrmF]; rfl) rfl rfl ?_
    refine JC_true rfl ?_
    refine JC_seq ?_
    refine JC_seq ?_
    refine JC_region ?_
    refine JL_fieldAddr fo33_0 rfl ?_
    refine JL_load 0 ty31 rfl rfl rfl ?_
    refine JL_len sl31 rfl ?_
    refine JL_fieldAddr fo33_0 rfl ?_
    refine JL_load 1 ty31 rfl rfl rfl ?_
    refine JL_len sl31 rfl ?_
    refine JL_lss rfl rfl ?_
    refine JL_split (fun h23 => ?_) (fun h23 => ?_)
    · refine JL_done_up 54 [box _ _ [_], box _ _ [_]] [_, _, _, _] rfl rfl (by simp only [nrmF]; rfl) rfl rfl ?_
      refine JC_true rfl ?_
      refine JC_seq ?_
      refine JC_region ?_
      refine JL_assign rfl ?_
      refine JL_done_up 54 [box _ _ [_], box _ _ [_]] [_, _, _, _] rfl rfl (by simp only [nrmF]; rfl) rfl rfl ?_
      refine JC_ret ?_
      refine JE_then_ret ?_
      refine JE_then_ret ?_
      refine JE_ret (vs := [_]) [] Tryd.results94 ⟨rfl, rfl⟩ ?_ ?_
      · exact ⟨by rw [cmpN_lt (length_limbsOf_lt (by omega))]; rfl, rfl⟩
      · exact all_nil
    · refine JL_done_up 54 [box _ _ [_], box _ _ [_]] [_, _, _, _] rfl rfl (by simp only [nrmF]; rfl) rfl rfl ?_
      refine JC_false rfl ?_
      refine JC_skip ?_
      refine JE_then ?_
      refine JC_seq ?_
      refine JC_region ?_
      refine JL_assign rfl ?_
      refine JL_done_up 54 [box _ _ [_], box _ _ [_]] [_, _, _, _] rfl rfl (by simp only [nrmF]; rfl) rfl rfl ?_
      refine JC_ret ?_
      refine JE_then_ret ?_
      refine JE_ret (vs := [_]) [] Tryd.results94 ⟨rfl, rfl⟩ ?_ ?_
      · exact ⟨by rw [cmpN_gt (length_limbsOf_lt (by omega))]; rfl, rfl⟩
      · exact all_nil
  · have hlen : (limbsOf x1).length = (limbsOf x2).length := by omega
    refine JL_done_up 54 [box _ _ [_], box _ _ [_]] [_, _, _, _] rfl rfl (by simp only [nrmF]; rfl) rfl rfl ?_
    refine JC_false rfl ?_
    refine JC_skip ?_
    refine JE_then ?_
    refine JC_seq ?_
    refine JC_seq ?_
    refine JC_region ?_
    refine JL_fieldAddr fo33_0 rfl ?_
    refine JL_load 0 ty31 rfl rfl rfl ?_
    refine JL_len sl31 rfl ?_
    refine JL_sub_to rfl rfl (IntWalk.i64_in _ (by omega)) ?_
    refine JL_assign rfl ?_
    refine JL_done_up 54 [box _ _ [_], box _ _ [_]] [_, _, _, _] rfl rfl (by simp only [nrmF]; rfl) rfl rfl ?_
    refine JC_block ?_
    refine JC_loopS ((Nat)) (fun (k : Nat) => k ≤ (limbsOf x1).length ∧ (limbsOf x1).drop k = (limbsOf x2).drop k) (fun (k : Nat) => k) (fun u (k : Nat) => [none, none, none, none, some (u 4), some (.int .i64 ((k : Nat) - 1)), none, none, none, none, none, none, none, none, none, none, none, none, none, none, none, none, none, none, none, none, none, none, some (u 28), some (u 29), some (u 30), some (u 31), some (u 32), some (u 33), some (u 34), some (u 35), some (u 36), some (u 37), some (u 38), some (u 39), some (u 40), some (u 41), some (u 42), some (u 43), some (u 44), some (u 45), some (u 46), some (u 47), some (u 48), some (u 49), some (u 50), some (u 51), some (u 52), some (u 53)]) (fun (k : Nat) => [none, none]) (fun (k : Nat) => []) ((limbsOf x1).length) (by kernel_rfl) ?_ (by kernel_rfl) ?_ ?_
    · exact ⟨Nat.le_refl _, by rw [List.drop_length, List.drop_of_length_le (by omega)]⟩
    · exact subset_nil
    intro u k hC
    obtain ⟨hk, hd⟩ := hC
    refine JC_norm ⟨54, [], [_, _, _, _, _, _, _, _, _, _, _, _, _, _, _, _, _, _, _, _, _, _, _, _, _, _, _, _, _, _, _, _, _, _, _, _, _, _, _, _, _, _, _, _, _, _, _, _, _, _, _, _, _, _]⟩ [box _ _ [_], box _ _ [_]] [_, _, _, _] rfl rfl rfl ?_
    refine JC_seq ?_
    refine JC_seq ?_
    refine JC_region ?_
    refine JL_move rfl ?_
    refine JL_geq rfl rfl ?_
    refine JL_split (fun h29 => ?_) (fun h29 => ?_)
    · refine JL_done_up 54 [box _ _ [_], box _ _ [_]] [_, _, _, _] rfl rfl (by simp only [nrmF]; rfl) rfl rfl ?_
      refine JC_true rfl ?_
      refine JC_skip ?_
      refine JE_then ?_
      refine JC_seq ?_
      refine JC_block ?_
      refine JC_seq ?_
      refine JC_seq ?_
      refine JC_drawT mixed 10 [spV 32 [] _, spV 33 [0] _, spV 34 [] _, spV 35 [1, 2] _, spV 36 [3] _, spV 37 [] _, spV 38 [5] _, spV 39 [] _, spV 40 [6, 7] _, spV 41 [8] _] ⟨OblS_V (fun vals ex ψ => (by
          refine JL_normQ ⟨54, [(32, _), (33, _), (34, _), (35, _), (36, _), (37, _), (38, _), (39, _), (40, _), (41, _)], _⟩ (_ :: _ :: _ :: _ :: ψ) rfl rfl ?_
          refine JL_fieldAddr fo33_0 rfl ?_
          exact JL_nil (JE_stepV rfl ss0))), OblS_V (fun vals ex ψ => (by
          refine JL_normQ ⟨54, [(32, _), (33, _), (34, _), (35, _), (36, _), (37, _), (38, _), (39, _), (40, _), (41, _)], _⟩ (_ :: _ :: _ :: _ :: ψ) rfl rfl ?_
          refine JL_load 0 ty31 rfl rfl rfl ?_
          exact JL_nil (JE_stepV rfl ss0))), OblS_V (fun vals ex ψ => (by
          refine JL_normQ ⟨54, [(32, _), (33, _), (34, _), (35, _), (36, _), (37, _), (38, _), (39, _), (40, _), (41, _)], _⟩ (_ :: _ :: _ :: _ :: ψ) rfl rfl ?_
          refine JL_move rfl ?_
          exact JL_nil (JE_stepV rfl ss0))), OblS_V (fun vals ex ψ => (by
          refine JL_normQ ⟨54, [(32, _), (33, _), (34, _), (35, _), (36, _), (37, _), (38, _), (39, _), (40, _), (41, _)], _⟩ (_ :: _ :: _ :: _ :: ψ) rfl rfl ?_
          refine JL_idx (k - 1) sl31 rfl rfl (by omega) (by omega) (Reads.view (List.mem_cons_of_mem _ List.mem_cons_self)) (by first | (rw [u32s_length]; omega) | (rw [i64s_length]; omega)) ?_
          exact JL_nil (JE_stepV rfl ss0))), OblS_V (fun vals ex ψ => (by
          refine JL_normQ ⟨54, [(32, _), (33, _), (34, _), (35, _), (36, _), (37, _), (38, _), (39, _), (40, _), (41, _)], _⟩ (_ :: _ :: _ :: _ :: ψ) rfl rfl ?_
          refine JL_loadE ty101 rfl (Reads.view (List.mem_cons_of_mem _ List.mem_cons_self)) (u32s_get (by omega)) ?_
          exact JL_nil (JE_stepV rfl ss0))), OblS_V (fun vals ex ψ => (by
          refine JL_normQ ⟨54, [(32, _), (33, _), (34, _), (35, _), (36, _), (37, _), (38, _), (39, _), (40, _), (41, _)], _⟩ (_ :: _ :: _ :: _ :: ψ) rfl rfl ?_
          refine JL_fieldAddr fo33_0 rfl ?_
          exact JL_nil (JE_stepV rfl ss0))), OblS_V (fun vals ex ψ => (by
          refine JL_normQ ⟨54, [(32, _), (33, _), (34, _), (35, _), (36, _), (37, _), (38, _), (39, _), (40, _), (41, _)], _⟩ (_ :: _ :: _ :: _ :: ψ) rfl rfl ?_
          refine JL_load 1 ty31 rfl rfl rfl ?_
          exact JL_nil (JE_stepV rfl ss0))), OblS_V (fun vals ex ψ => (by
          refine JL_normQ ⟨54, [(32, _), (33, _), (34, _), (35, _), (36, _), (37, _), (38, _), (39, _), (40, _), (41, _)], _⟩ (_ :: _ :: _ :: _ :: ψ) rfl rfl ?_
          refine JL_move rfl ?_
          exact JL_nil (JE_stepV rfl ss0))), OblS_V (fun vals ex ψ => (by
          refine JL_normQ ⟨54, [(32, _), (33, _), (34, _), (35, _), (36, _), (37, _), (38, _), (39, _), (40, _), (41, _)], _⟩ (_ :: _ :: _ :: _ :: ψ) rfl rfl ?_
          refine JL_idx (k - 1) sl31 rfl rfl (by omega) (by omega) (Reads.view List.mem_cons_self) (by first | (rw [u32s_length]; omega) | (rw [i64s_length]; omega)) ?_
          exact JL_nil (JE_stepV rfl ss0))), OblS_V (fun vals ex ψ => (by
          refine JL_normQ ⟨54, [(32, _), (33, _), (34, _), (35, _), (36, _), (37, _), (38, _), (39, _), (40, _), (41, _)], _⟩ (_ :: _ :: _ :: _ :: ψ) rfl rfl ?_
          refine JL_loadE ty101 rfl (Reads.view List.mem_cons_self) (u32s_get (by omega)) ?_
          exact JL_nil (JE_stepV rfl ss0))), trivial⟩ (by kernel_rfl) (fun vals bs => ?_)
      refine JL_normL [_] ⟨54, [(32, _), (33, _), (34, _), (35, _), (36, _), (37, _), (38, _), (39, _), (40, _), (41, _)], _⟩ [box _ _ [_], box _ _ [_]] [_, _, _, _] rfl rfl rfl rfl ?_
      refine JL_lss rfl rfl ?_
      refine JL_split (fun h42 => ?_) (fun h42 => ?_)
      · refine JL_done_up 54 [box _ _ [_], box _ _ [_]] [_, _, _, _] rfl rfl (by simp only [nrmF]; rfl) rfl rfl ?_
        refine JC_true rfl ?_
        refine JC_seq ?_
        refine JC_region ?_
        refine JL_assign rfl ?_
        refine JL_done_up 54 [box _ _ [_], box _ _ [_]] [_, _, _, _] rfl rfl (by simp only [nrmF]; rfl) rfl rfl ?_
        refine JC_ret ?_
        refine JE_then_ret ?_
        refine JE_block_ret ?_
        refine JE_then_ret ?_
        refine JE_nextS_ret ?_
        refine JE_block_ret ?_
        refine JE_then_ret ?_
        refine JE_ret (vs := [_]) [] Tryd.results94 ⟨rfl, rfl⟩ ?_ ?_
        · exact ⟨by rw [cmpN_lt (cmp_top hlen (k - 1) (by omega) (by rw [Nat.sub_add_cancel (by omega)]; exact hd) (by omega))]; rfl, rfl⟩
        · exact all_nil
      · refine JL_done_up 54 [box _ _ [_], box _ _ [_]] [_, _, _, _] rfl rfl (by simp only [nrmF]; rfl) rfl rfl ?_
        refine JC_false rfl ?_
        refine JC_skip ?_
        refine JE_then ?_
        refine JC_seq ?_
        refine JC_drawT mixed 10 [spV 43 [] _, spV 44 [0] _, spV 45 [] _, spV 46 [1, 2] _, spV 47 [3] _, spV 48 [] _, spV 49 [5] _, spV 50 [] _, spV 51 [6, 7] _, spV 52 [8] _] ⟨OblS_V (fun vals ex ψ => (by
            refine JL_normQ ⟨54, [(43, _), (44, _), (45, _), (46, _), (47, _), (48, _), (49, _), (50, _), (51, _), (52, _)], _⟩ (_ :: _ :: _ :: _ :: ψ) rfl rfl ?_
            refine JL_fieldAddr fo33_0 rfl ?_
            exact JL_nil (JE_stepV rfl ss0))), OblS_V (fun vals ex ψ => (by
            refine JL_normQ ⟨54, [(43, _), (44, _), (45, _), (46, _), (47, _), (48, _), (49, _), (50, _), (51, _), (52, _)], _⟩ (_ :: _ :: _ :: _ :: ψ) rfl rfl ?_
            refine JL_load 0 ty31 rfl rfl rfl ?_
            exact JL_nil (JE_stepV rfl ss0))), OblS_V (fun vals ex ψ => (by
            refine JL_normQ ⟨54, [(43, _), (44, _), (45, _), (46, _), (47, _), (48, _), (49, _), (50, _), (51, _), (52, _)], _⟩ (_ :: _ :: _ :: _ :: ψ) rfl rfl ?_
            refine JL_move rfl ?_
            exact JL_nil (JE_stepV rfl ss0))), OblS_V (fun vals ex ψ => (by
            refine JL_normQ ⟨54, [(43, _), (44, _), (45, _), (46, _), (47, _), (48, _), (49, _), (50, _), (51, _), (52, _)], _⟩ (_ :: _ :: _ :: _ :: ψ) rfl rfl ?_
            refine JL_idx (k - 1) sl31 rfl rfl (by omega) (by omega) (Reads.view (List.mem_cons_of_mem _ List.mem_cons_self)) (by first | (rw [u32s_length]; omega) | (rw [i64s_length]; omega)) ?_
            exact JL_nil (JE_stepV rfl ss0))), OblS_V (fun vals ex ψ => (by
            refine JL_normQ ⟨54, [(43, _), (44, _), (45, _), (46, _), (47, _), (48, _), (49, _), (50, _), (51, _), (52, _)], _⟩ (_ :: _ :: _ :: _ :: ψ) rfl rfl ?_
            refine JL_loadE ty101 rfl (Reads.view (List.mem_cons_of_mem _ List.mem_cons_self)) (u32s_get (by omega)) ?_
            exact JL_nil (JE_stepV rfl ss0))), OblS_V (fun vals ex ψ => (by
            refine JL_normQ ⟨54, [(43, _), (44, _), (45, _), (46, _), (47, _), (48, _), (49, _), (50, _), (51, _), (52, _)], _⟩ (_ :: _ :: _ :: _ :: ψ) rfl rfl ?_
            refine JL_fieldAddr fo33_0 rfl ?_
            exact JL_nil (JE_stepV rfl ss0))), OblS_V (fun vals ex ψ => (by
            refine JL_normQ ⟨54, [(43, _), (44, _), (45, _), (46, _), (47, _), (48, _), (49, _), (50, _), (51, _), (52, _)], _⟩ (_ :: _ :: _ :: _ :: ψ) rfl rfl ?_
            refine JL_load 1 ty31 rfl rfl rfl ?_
            exact JL_nil (JE_stepV rfl ss0))), OblS_V (fun vals ex ψ => (by
            refine JL_normQ ⟨54, [(43, _), (44, _), (45, _), (46, _), (47, _), (48, _), (49, _), (50, _), (51, _), (52, _)], _⟩ (_ :: _ :: _ :: _ :: ψ) rfl rfl ?_
            refine JL_move rfl ?_
            exact JL_nil (JE_stepV rfl ss0))), OblS_V (fun vals ex ψ => (by
            refine JL_normQ ⟨54, [(43, _), (44, _), (45, _), (46, _), (47, _), (48, _), (49, _), (50, _), (51, _), (52, _)], _⟩ (_ :: _ :: _ :: _ :: ψ) rfl rfl ?_
            refine JL_idx (k - 1) sl31 rfl rfl (by omega) (by omega) (Reads.view List.mem_cons_self) (by first | (rw [u32s_length]; omega) | (rw [i64s_length]; omega)) ?_
            exact JL_nil (JE_stepV rfl ss0))), OblS_V (fun vals ex ψ => (by
            refine JL_normQ ⟨54, [(43, _), (44, _), (45, _), (46, _), (47, _), (48, _), (49, _), (50, _), (51, _), (52, _)], _⟩ (_ :: _ :: _ :: _ :: ψ) rfl rfl ?_
            refine JL_loadE ty101 rfl (Reads.view List.mem_cons_self) (u32s_get (by omega)) ?_
            exact JL_nil (JE_stepV rfl ss0))), trivial⟩ (by kernel_rfl) (fun vals bs => ?_)
        refine JL_normL [_] ⟨54, [(43, _), (44, _), (45, _), (46, _), (47, _), (48, _), (49, _), (50, _), (51, _), (52, _)], _⟩ [box _ _ [_], box _ _ [_]] [_, _, _, _] rfl rfl rfl rfl ?_
        refine JL_gtr rfl rfl ?_
        refine JL_split (fun h53 => ?_) (fun h53 => ?_)
        · refine JL_done_up 54 [box _ _ [_], box _ _ [_]] [_, _, _, _] rfl rfl (by simp only [nrmF]; rfl) rfl rfl ?_
          refine JC_true rfl ?_
          refine JC_seq ?_
          refine JC_region ?_
          refine JL_assign rfl ?_
          refine JL_done_up 54 [box _ _ [_], box _ _ [_]] [_, _, _, _] rfl rfl (by simp only [nrmF]; rfl) rfl rfl ?_
          refine JC_ret ?_
          refine JE_block_ret ?_
          refine JE_then_ret ?_
          refine JE_nextS_ret ?_
          refine JE_block_ret ?_
          refine JE_then_ret ?_
          refine JE_ret (vs := [_]) [] Tryd.results94 ⟨rfl, rfl⟩ ?_ ?_
          · exact ⟨by rw [cmpN_gt (cmp_top hlen.symm (k - 1) (by omega) (by rw [Nat.sub_add_cancel (by omega)]; exact hd.symm) (by omega))]; rfl, rfl⟩
          · exact all_nil
        · refine JL_done_up 54 [box _ _ [_], box _ _ [_]] [_, _, _, _] rfl rfl (by simp only [nrmF]; rfl) rfl rfl ?_
          refine JC_false rfl ?_
          refine JC_skip ?_
          refine JE_block_normal ?_
          refine JE_then ?_
          refine JC_region ?_
          refine JL_move rfl ?_
          refine JL_sub_to rfl rfl (IntWalk.i64_in _ (by omega)) ?_
          rw [show ((k : Int) - 1 - 1 : Int) = ((k - 1 : Nat) : Int) - 1 from by omega]
          refine JL_assign rfl ?_
          refine JL_nil_up 54 [box _ _ [_], box _ _ [_]] [_, _, _, _] rfl rfl (by simp only [nrmF]; rfl) rfl rfl ?_
          refine JE_nextS (k - 1) (by kernel_rfl) ?_ ?_ (by kernel_rfl) ?_
          · exact ⟨by omega, cmp_drop hlen (k - 1) (by omega) (by rw [Nat.sub_add_cancel (by omega)]; exact hd) (by omega)⟩
          · first | omega | (dsimp only; omega)
          · exact subset_app subset_nil ss0
    · refine JL_done_up 54 [box _ _ [_], box _ _ [_]] [_, _, _, _] rfl rfl (by simp only [nrmF]; rfl) rfl rfl ?_
      refine JC_false rfl ?_
      refine JC_exit ?_
      refine JE_then_exit ?_
      refine JE_nextS_exit ?_
      refine JE_block_exit ?_
      refine JE_then ?_
      refine JC_seq ?_
      refine JC_region ?_
      refine JL_assign rfl ?_
      refine JL_done_up 54 [box _ _ [_], box _ _ [_]] [_, _, _, _] rfl rfl (by simp only [nrmF]; rfl) rfl rfl ?_
      refine JC_ret ?_
      refine JE_ret (vs := [_]) [] Tryd.results94 ⟨rfl, rfl⟩ ?_ ?_
      · exact ⟨by rw [cmpN_eq (cmp_all (by rw [show (0 : Nat) = k from by omega]; exact hd))]; rfl, rfl⟩
      · exact all_nil

theorem radd_con (ad1 : Option Addr) (n1 c1 : Nat) (L1 : List Nat) (x1 : Nat) (g1 : NIn n1 L1 x1 200000000) (ad2 : Option Addr) (n2 c2 : Nat) (L2 : List Nat) (x2 : Nat) (g2 : NIn n2 L2 x2 200000000) (z : Nat) (hz : x1 + x2 = z) :
    ConF Tryd.prog 98 [.agg #[.slice ad1 n1 c1], .agg #[.slice ad2 n2 c2]] [vCells ad1 (u32s L1), vCells ad2 (u32s L2)]
      (LN z) := by
  subst hz
  have hs1 := g1.sz
  have hl1 := g1.le
  have hs2 := g2.sz
  have hl2 := g2.le
  refine ConF_of Tryd.func98 rfl 57 _ rfl rfl ?_
  intro w0
  refine JC_norm ⟨57, [], [_, _, _, _, _, _, _, _, _, _, _, _, _, _, _, _, _, _, _, _, _, _, _, _, _, _, _, _, _, _, _, _, _, _, _, _, _, _, _, _, _, _, _, _, _, _, _, _, _, _, _, _, _, _, _, _, _]⟩ [] [_, _] rfl rfl rfl ?_
  refine JC_seq ?_
  refine JC_region ?_
  refine JL_box rfl rfl (fun b2 => ?_)
  refine JL_box rfl rfl (fun b3 => ?_)
  refine JL_alloc z33 (fun b4 => ?_)
  refine JL_done_up 57 [box _ _ [_], box _ _ [_], box _ _ [_]] [_, _] rfl rfl (by simp only [nrmF]; rfl) rfl rfl ?_
  refine JC_seq ?_
  refine JC_region ?_
  refine JL_loadA (vs := [_]) 0 ty33 rfl rfl ⟨rfl, trivial⟩ ?_
  refine JL_callF' (Asks.cons (holds_of_mem (by repeat (first | with_reducible exact mm0 | refine mmS ?_))) Asks.nil) (rnorm_con _ _ _ _ _ (g1.mono (by omega))) rfl ca95 ⟨rfl, rfl⟩ ?_
  rintro _ _ ⟨ad9, cap9, rfl, hk9, hm9, rfl⟩
  refine JL_store (vs := [_]) 0 ty33 rfl rfl rfl (AllOne.cons rfl AllOne.nil) rfl (Nat.le_of_ble_eq_true rfl) ?_
  refine JL_done_up 57 [box _ _ [_], box _ _ [_], box _ _ [_]] [_, _, _] rfl rfl (by simp only [nrmF]; rfl) rfl rfl ?_
  refine JC_seq ?_
  refine JC_region ?_
  refine JL_loadA (vs := [_]) 1 ty33 rfl rfl ⟨rfl, trivial⟩ ?_
  refine JL_callF' (Asks.cons (holds_of_mem (by repeat (first | with_reducible exact mm0 | refine mmS ?_))) Asks.nil) (rnorm_con _ _ _ _ _ (g2.mono (by omega))) rfl ca95 ⟨rfl, rfl⟩ ?_
  rintro _ _ ⟨ad11, cap11, rfl, hk11, hm11, rfl⟩
  refine JL_store (vs := [_]) 1 ty33 rfl rfl rfl (AllOne.cons rfl AllOne.nil) rfl (Nat.le_of_ble_eq_true rfl) ?_
  refine JL_done_up 57 [box _ _ [_], box _ _ [_], box _ _ [_]] [_, _, _, _] rfl rfl (by simp only [nrmF]; rfl) rfl rfl ?_
  refine JC_seq ?_
  refine JC_region ?_
  refine JL_assign rfl ?_
  refine JL_done_up 57 [box _ _ [_], box _ _ [_], box _ _ [_]] [_, _, _, _] rfl rfl (by simp only [nrmF]; rfl) rfl rfl ?_
  refine JC_seq ?_
  refine JC_seq ?_
  refine JC_region ?_
  refine JL_assign rfl ?_
  refine JL_done_up 57 [box _ _ [_], box _ _ [_], box _ _ [_]] [_, _, _, _] rfl rfl (by simp only [nrmF]; rfl) rfl rfl ?_
  refine JC_block ?_
  refine JC_addNil 101 1 ?_
  refine JC_norm ⟨57, [], [_, _, _, _, _, _, _, _, _, _, _, _, _, _, _, _, _, _, _, _, _, _, _, _, _, _, _, _, _, _, _, _, _, _, _, _, _, _, _, _, _, _, _, _, _, _, _, _, _, _, _, _, _, _, _, _, _]⟩ [box _ _ [_], box _ _ [_], box _ _ [_], osl _ _ _ _ _ _] [_, _, _, _] rfl rfl rfl ?_
  refine JC_loopS ((Nat) × (List Nat) × (Option Addr) × (Nat)) (fun (k, out, ad, cap) => k ≤ max (limbsOf x1).length (limbsOf x2).length ∧ out.length = k ∧ U32 out ∧ val out = val ((limbsOf x1).take k) + val ((limbsOf x2).take k) ∧ k ≤ cap ∧ cap ≤ 9223372036854775807) (fun (k, out, ad, cap) => max (limbsOf x1).length (limbsOf x2).length - k) (fun u (k, out, ad, cap) => [none, none, none, none, none, some (.slice ad k cap), some (.int .i64 (k : Nat)), some (u 7), none, none, none, none, some (u 12), some (u 13), some (u 14), some (u 15), some (u 16), some (u 17), some (u 18), some (u 19), some (u 20), some (u 21), some (u 22), some (u 23), some (u 24), some (u 25), some (u 26), some (u 27), some (u 28), some (u 29), some (u 30), some (u 31), some (u 32), some (u 33), some (u 34), some (u 35), some (u 36), some (u 37), some (u 38), some (u 39), some (u 40), some (u 41), some (u 42), some (u 43), some (u 44), some (u 45), some (u 46), some (u 47), some (u 48), some (u 49), some (u 50), some (u 51), some (u 52), some (u 53), none, none, none]) (fun (k, out, ad, cap) => [none, none, none, some (osl ad k cap 101 1 (u32s out))]) (fun (k, out, ad, cap) => []) (0, [], none, 0) (by kernel_rfl) ?_ (by kernel_rfl) ?_ ?_
  · exact ⟨Nat.zero_le _, rfl, fun _ h => (List.not_mem_nil h).elim, by simp [val], by omega, by omega⟩
  · exact subset_nil
  intro u i hC
  obtain ⟨k, out, ad, cap⟩ := i
  obtain ⟨hk, ho, hd, hv, hcap, hm⟩ := hC
  refine JC_norm ⟨57, [], [_, _, _, _, _, _, _, _, _, _, _, _, _, _, _, _, _, _, _, _, _, _, _, _, _, _, _, _, _, _, _, _, _, _, _, _, _, _, _, _, _, _, _, _, _, _, _, _, _, _, _, _, _, _, _, _, _]⟩ [box _ _ [_], box _ _ [_], box _ _ [_], osl _ _ _ _ _ _] [_, _, _, _] rfl rfl rfl ?_
  have hX := (dig_limbsOf x1).getD k
  have hY := (dig_limbsOf x2).getD k
  refine JC_seq ?_
  refine JC_seq ?_
  refine JC_region ?_
  refine JL_move rfl ?_
  refine JL_fieldAddr fo33_0 rfl ?_
  refine JL_load 0 ty31 rfl rfl rfl ?_
  refine JL_len sl31 rfl ?_
  refine JL_lss rfl rfl ?_
  refine JL_split (fun h16 => ?_) (fun h16 => ?_)
  · refine JL_move rfl ?_
    refine JL_guard_no rfl rfl ?_
    refine JL_guard_no rfl rfl ?_
    refine JL_guard_no rfl rfl ?_
    refine JL_guard_no rfl rfl ?_
    refine JL_guard_no rfl rfl ?_
    refine JL_pick_t rfl rfl ?_
    refine JL_done_up 57 [box _ _ [_], box _ _ [_], box _ _ [_], osl _ _ _ _ _ _] [_, _, _, _] rfl rfl (by simp only [nrmF]; rfl) rfl rfl ?_
    refine JC_true rfl ?_
    refine JC_skip ?_
    refine JE_then ?_
    refine JC_seq ?_
    refine JC_block ?_
    refine JC_seq ?_
    refine JC_region ?_
    refine JL_assign rfl ?_
    refine JL_done_up 57 [box _ _ [_], box _ _ [_], box _ _ [_], osl _ _ _ _ _ _] [_, _, _, _] rfl rfl (by simp only [nrmF]; rfl) rfl rfl ?_
    refine JC_seq ?_
    refine JC_seq ?_
    refine JC_region ?_
    refine JL_move rfl ?_
    refine JL_fieldAddr fo33_0 rfl ?_
    refine JL_load 0 ty31 rfl rfl rfl ?_
    refine JL_len sl31 rfl ?_
    refine JL_lss rfl rfl ?_
    refine JL_done_up 57 [box _ _ [_], box _ _ [_], box _ _ [_], osl _ _ _ _ _ _] [_, _, _, _] rfl rfl (by simp only [nrmF]; rfl) rfl rfl ?_
    refine JC_cutT ((Nat)) (fun (t : Nat) => t = (limbsOf x1).getD k 0) (fun u (t : Nat) => [none, none, none, none, none, none, none, some (.int .u32 (t : Nat)), none, none, none, none, none, none, none, none, none, none, none, none, none, none, none, none, none, none, none, none, none, none, none, some (u 31), some (u 32), some (u 33), some (u 34), some (u 35), some (u 36), some (u 37), none, none, none, none, none, none, none, none, none, none, none, none, none, none, none, none, none, none, none]) (fun (t : Nat) => [none, none, none, none]) (fun (t : Nat) => []) ?_ ?_
    · refine JC_cond rfl (fun hb => ?_) (fun hb => ?_)
      · have h30 := of_decide_eq_true hb
        refine JC_region ?_
        refine JL_move rfl ?_
        refine JL_fieldAddr fo33_0 rfl ?_
        refine JL_load 0 ty31 rfl rfl rfl ?_
        refine JL_move rfl ?_
        refine JL_idx k sl31 rfl rfl rfl (by omega) (Reads.view (List.mem_cons_of_mem _ List.mem_cons_self)) (by first | (rw [u32s_length]; omega) | (rw [i64s_length]; omega)) ?_
        refine JL_loadE ty101 rfl (Reads.view (List.mem_cons_of_mem _ List.mem_cons_self)) (u32s_get (by omega)) ?_
        refine JL_add_to rfl rfl (IntWalk.u32_in _ (by omega)) ?_
        refine JL_assign rfl ?_
        refine JL_nil_up 57 [box _ _ [_], box _ _ [_], box _ _ [_], osl _ _ _ _ _ _] [_, _, _, _] rfl rfl (by simp only [nrmF]; rfl) rfl rfl ?_
        refine JE_midS (0 + (limbsOf x1).getD k 0) (by kernel_rfl) ?_ (by kernel_rfl) ?_
        · exact Nat.zero_add _
        · exact subset_app subset_nil ss0
      · have h30 := of_decide_eq_false hb
        refine JC_skip ?_
        refine JE_midS (0) (by kernel_rfl) ?_ (by kernel_rfl) ?_
        · show _ = _; rw [getD_of_ge (limbsOf x1) k (by omega)]
        · exact subset_app subset_nil ss0
    intro u t ht
    refine JC_norm ⟨57, [], [_, _, _, _, _, _, _, _, _, _, _, _, _, _, _, _, _, _, _, _, _, _, _, _, _, _, _, _, _, _, _, _, _, _, _, _, _, _, _, _, _, _, _, _, _, _, _, _, _, _, _, _, _, _, _, _, _]⟩ [box _ _ [_], box _ _ [_], box _ _ [_], osl _ _ _ _ _ _] [_, _, _, _] rfl rfl rfl ?_
    refine JC_seq ?_
    refine JC_seq ?_
    refine JC_region ?_
    refine JL_move rfl ?_
    refine JL_fieldAddr fo33_0 rfl ?_
    refine JL_load 1 ty31 rfl rfl rfl ?_
    refine JL_len sl31 rfl ?_
    refine JL_lss rfl rfl ?_
    refine JL_done_up 57 [box _ _ [_], box _ _ [_], box _ _ [_], osl _ _ _ _ _ _] [_, _, _, _] rfl rfl (by simp only [nrmF]; rfl) rfl rfl ?_
    refine JC_cutT ((Nat)) (fun (s : Nat) => s = (limbsOf x1).getD k 0 + (limbsOf x2).getD k 0) (fun u (s : Nat) => [none, none, none, none, none, none, none, some (.int .u32 (s : Nat)), none, none, none, none, none, none, none, none, none, none, none, none, none, none, none, none, none, none, none, none, none, none, none, none, none, none, none, none, none, none, none, none, none, none, none, some (u 43), some (u 44), some (u 45), some (u 46), some (u 47), some (u 48), some (u 49), none, none, none, none, none, none, none]) (fun (s : Nat) => [none, none, none, none]) (fun (s : Nat) => []) ?_ ?_
    · refine JC_cond rfl (fun hb => ?_) (fun hb => ?_)
      · have h42 := of_decide_eq_true hb
        refine JC_region ?_
        refine JL_move rfl ?_
        refine JL_fieldAddr fo33_0 rfl ?_
        refine JL_load 1 ty31 rfl rfl rfl ?_
        refine JL_move rfl ?_
        refine JL_idx k sl31 rfl rfl rfl (by omega) (Reads.view List.mem_cons_self) (by first | (rw [u32s_length]; omega) | (rw [i64s_length]; omega)) ?_
        refine JL_loadE ty101 rfl (Reads.view List.mem_cons_self) (u32s_get (by omega)) ?_
        refine JL_add_to rfl rfl (IntWalk.u32_in _ (by omega)) ?_
        refine JL_assign rfl ?_
        refine JL_nil_up 57 [box _ _ [_], box _ _ [_], box _ _ [_], osl _ _ _ _ _ _] [_, _, _, _] rfl rfl (by simp only [nrmF]; rfl) rfl rfl ?_
        refine JE_midS (t + (limbsOf x2).getD k 0) (by kernel_rfl) ?_ (by kernel_rfl) ?_
        · show _ = _ + _; rw [ht]
        · exact subset_app subset_nil ss0
      · have h42 := of_decide_eq_false hb
        refine JC_skip ?_
        refine JE_midS (t) (by kernel_rfl) ?_ (by kernel_rfl) ?_
        · show _ = _ + _; rw [getD_of_ge (limbsOf x2) k (by omega), ht]; omega
        · exact subset_app subset_nil ss0
    intro u s hs
    refine JC_norm ⟨57, [], [_, _, _, _, _, _, _, _, _, _, _, _, _, _, _, _, _, _, _, _, _, _, _, _, _, _, _, _, _, _, _, _, _, _, _, _, _, _, _, _, _, _, _, _, _, _, _, _, _, _, _, _, _, _, _, _, _]⟩ [box _ _ [_], box _ _ [_], box _ _ [_], osl _ _ _ _ _ _] [_, _, _, _] rfl rfl rfl ?_
    refine JC_region ?_
    refine JL_move rfl ?_
    refine JL_move rfl ?_
    refine JL_build1 sl31 rfl rfl (fun g52 => ?_)
    refine JL_appendU (L := _) 3 4 s sl31 rfl rfl rfl rfl (by omega) (by omega) (by omega) (fun ad53 cap53 hc53 => ?_)
    refine JL_dropAt 4 ?_
    refine JL_norm _ [box _ _ [_], box _ _ [_], box _ _ [_], osl _ _ _ _ _ _] [_, _, _, _] rfl rfl rfl ?_
    refine JL_assign rfl ?_
    refine JL_nil_up 57 [box _ _ [_], box _ _ [_], box _ _ [_], osl _ _ _ _ _ _] [_, _, _, _] rfl rfl (by simp only [nrmF]; rfl) rfl rfl ?_
    refine JE_block_normal ?_
    refine JE_then ?_
    refine JC_region ?_
    refine JL_move rfl ?_
    refine JL_add_to rfl rfl (IntWalk.i64_in _ (by omega)) ?_
    refine JL_assign rfl ?_
    refine JL_nil_up 57 [box _ _ [_], box _ _ [_], box _ _ [_], osl _ _ _ _ _ _] [_, _, _, _] rfl rfl (by simp only [nrmF]; rfl) rfl rfl ?_
    refine JE_nextS (k + 1, out ++ [s], ad53, cap53) (by kernel_rfl) ?_ ?_ (by kernel_rfl) ?_
    · exact ⟨by omega, by rw [len_snoc]; omega, U32.snoc hd (by omega), by rw [val_snoc, ho, hv, val_take_succ', val_take_succ', hs, Nat.mul_add]; omega, by omega, by omega⟩
    · first | omega | (dsimp only; omega)
    · exact subset_app subset_nil ss0
  · refine JL_move rfl ?_
    refine JL_guard_yes rfl rfl ?_
    refine JL_move rfl ?_
    refine JL_guard_yes rfl rfl ?_
    refine JL_fieldAddr fo33_0 rfl ?_
    refine JL_guard_yes rfl rfl ?_
    refine JL_load 1 ty31 rfl rfl rfl ?_
    refine JL_guard_yes rfl rfl ?_
    refine JL_len sl31 rfl ?_
    refine JL_guard_yes rfl rfl ?_
    refine JL_lss rfl rfl ?_
    refine JL_split (fun h22 => ?_) (fun h22 => ?_)
    · refine JL_pick_f rfl rfl ?_
      refine JL_done_up 57 [box _ _ [_], box _ _ [_], box _ _ [_], osl _ _ _ _ _ _] [_, _, _, _] rfl rfl (by simp only [nrmF]; rfl) rfl rfl ?_
      refine JC_true rfl ?_
      refine JC_skip ?_
      refine JE_then ?_
      refine JC_seq ?_
      refine JC_block ?_
      refine JC_seq ?_
      refine JC_region ?_
      refine JL_assign rfl ?_
      refine JL_done_up 57 [box _ _ [_], box _ _ [_], box _ _ [_], osl _ _ _ _ _ _] [_, _, _, _] rfl rfl (by simp only [nrmF]; rfl) rfl rfl ?_
      refine JC_seq ?_
      refine JC_seq ?_
      refine JC_region ?_
      refine JL_move rfl ?_
      refine JL_fieldAddr fo33_0 rfl ?_
      refine JL_load 0 ty31 rfl rfl rfl ?_
      refine JL_len sl31 rfl ?_
      refine JL_lss rfl rfl ?_
      refine JL_done_up 57 [box _ _ [_], box _ _ [_], box _ _ [_], osl _ _ _ _ _ _] [_, _, _, _] rfl rfl (by simp only [nrmF]; rfl) rfl rfl ?_
      refine JC_cutT ((Nat)) (fun (t : Nat) => t = (limbsOf x1).getD k 0) (fun u (t : Nat) => [none, none, none, none, none, none, none, some (.int .u32 (t : Nat)), none, none, none, none, none, none, none, none, none, none, none, none, none, none, none, none, none, none, none, none, none, none, none, some (u 31), some (u 32), some (u 33), some (u 34), some (u 35), some (u 36), some (u 37), none, none, none, none, none, none, none, none, none, none, none, none, none, none, none, none, none, none, none]) (fun (t : Nat) => [none, none, none, none]) (fun (t : Nat) => []) ?_ ?_
      · refine JC_cond rfl (fun hb => ?_) (fun hb => ?_)
        · have h30 := of_decide_eq_true hb
          refine JC_region ?_
          refine JL_move rfl ?_
          refine JL_fieldAddr fo33_0 rfl ?_
          refine JL_load 0 ty31 rfl rfl rfl ?_
          refine JL_move rfl ?_
          refine JL_idx k sl31 rfl rfl rfl (by omega) (Reads.view (List.mem_cons_of_mem _ List.mem_cons_self)) (by first | (rw [u32s_length]; omega) | (rw [i64s_length]; omega)) ?_
          refine JL_loadE ty101 rfl (Reads.view (List.mem_cons_of_mem _ List.mem_cons_self)) (u32s_get (by omega)) ?_
          refine JL_add_to rfl rfl (IntWalk.u32_in _ (by omega)) ?_
          refine JL_assign rfl ?_
          refine JL_nil_up 57 [box _ _ [_], box _ _ [_], box _ _ [_], osl _ _ _ _ _ _] [_, _, _, _] rfl rfl (by simp only [nrmF]; rfl) rfl rfl ?_
          refine JE_midS (0 + (limbsOf x1).getD k 0) (by kernel_rfl) ?_ (by kernel_rfl) ?_
          · exact Nat.zero_add _
          · exact subset_app subset_nil ss0
        · have h30 := of_decide_eq_false hb
          refine JC_skip ?_
          refine JE_midS (0) (by kernel_rfl) ?_ (by kernel_rfl) ?_
          · show _ = _; rw [getD_of_ge (limbsOf x1) k (by omega)]
          · exact subset_app subset_nil ss0
      intro u t ht
      refine JC_norm ⟨57, [], [_, _, _, _, _, _, _, _, _, _, _, _, _, _, _, _, _, _, _, _, _, _, _, _, _, _, _, _, _, _, _, _, _, _, _, _, _, _, _, _, _, _, _, _, _, _, _, _, _, _, _, _, _, _, _, _, _]⟩ [box _ _ [_], box _ _ [_], box _ _ [_], osl _ _ _ _ _ _] [_, _, _, _] rfl rfl rfl ?_
      refine JC_seq ?_
      refine JC_seq ?_
      refine JC_region ?_
      refine JL_move rfl ?_
      refine JL_fieldAddr fo33_0 rfl ?_
      refine JL_load 1 ty31 rfl rfl rfl ?_
      refine JL_len sl31 rfl ?_
      refine JL_lss rfl rfl ?_
      refine JL_done_up 57 [box _ _ [_], box _ _ [_], box _ _ [_], osl _ _ _ _ _ _] [_, _, _, _] rfl rfl (by simp only [nrmF]; rfl) rfl rfl ?_
      refine JC_cutT ((Nat)) (fun (s : Nat) => s = (limbsOf x1).getD k 0 + (limbsOf x2).getD k 0) (fun u (s : Nat) => [none, none, none, none, none, none, none, some (.int .u32 (s : Nat)), none, none, none, none, none, none, none, none, none, none, none, none, none, none, none, none, none, none, none, none, none, none, none, none, none, none, none, none, none, none, none, none, none, none, none, some (u 43), some (u 44), some (u 45), some (u 46), some (u 47), some (u 48), some (u 49), none, none, none, none, none, none, none]) (fun (s : Nat) => [none, none, none, none]) (fun (s : Nat) => []) ?_ ?_
      · refine JC_cond rfl (fun hb => ?_) (fun hb => ?_)
        · have h42 := of_decide_eq_true hb
          refine JC_region ?_
          refine JL_move rfl ?_
          refine JL_fieldAddr fo33_0 rfl ?_
          refine JL_load 1 ty31 rfl rfl rfl ?_
          refine JL_move rfl ?_
          refine JL_idx k sl31 rfl rfl rfl (by omega) (Reads.view List.mem_cons_self) (by first | (rw [u32s_length]; omega) | (rw [i64s_length]; omega)) ?_
          refine JL_loadE ty101 rfl (Reads.view List.mem_cons_self) (u32s_get (by omega)) ?_
          refine JL_add_to rfl rfl (IntWalk.u32_in _ (by omega)) ?_
          refine JL_assign rfl ?_
          refine JL_nil_up 57 [box _ _ [_], box _ _ [_], box _ _ [_], osl _ _ _ _ _ _] [_, _, _, _] rfl rfl (by simp only [nrmF]; rfl) rfl rfl ?_
          refine JE_midS (t + (limbsOf x2).getD k 0) (by kernel_rfl) ?_ (by kernel_rfl) ?_
          · show _ = _ + _; rw [ht]
          · exact subset_app subset_nil ss0
        · have h42 := of_decide_eq_false hb
          refine JC_skip ?_
          refine JE_midS (t) (by kernel_rfl) ?_ (by kernel_rfl) ?_
          · show _ = _ + _; rw [getD_of_ge (limbsOf x2) k (by omega), ht]; omega
          · exact subset_app subset_nil ss0
      intro u s hs
      refine JC_norm ⟨57, [], [_, _, _, _, _, _, _, _, _, _, _, _, _, _, _, _, _, _, _, _, _, _, _, _, _, _, _, _, _, _, _, _, _, _, _, _, _, _, _, _, _, _, _, _, _, _, _, _, _, _, _, _, _, _, _, _, _]⟩ [box _ _ [_], box _ _ [_], box _ _ [_], osl _ _ _ _ _ _] [_, _, _, _] rfl rfl rfl ?_
      refine JC_region ?_
      refine JL_move rfl ?_
      refine JL_move rfl ?_
      refine JL_build1 sl31 rfl rfl (fun g52 => ?_)
      refine JL_appendU (L := _) 3 4 s sl31 rfl rfl rfl rfl (by omega) (by omega) (by omega) (fun ad53 cap53 hc53 => ?_)
      refine JL_dropAt 4 ?_
      refine JL_norm _ [box _ _ [_], box _ _ [_], box _ _ [_], osl _ _ _ _ _ _] [_, _, _, _] rfl rfl rfl ?_
      refine JL_assign rfl ?_
      refine JL_nil_up 57 [box _ _ [_], box _ _ [_], box _ _ [_], osl _ _ _ _ _ _] [_, _, _, _] rfl rfl (by simp only [nrmF]; rfl) rfl rfl ?_
      refine JE_block_normal ?_
      refine JE_then ?_
      refine JC_region ?_
      refine JL_move rfl ?_
      refine JL_add_to rfl rfl (IntWalk.i64_in _ (by omega)) ?_
      refine JL_assign rfl ?_
      refine JL_nil_up 57 [box _ _ [_], box _ _ [_], box _ _ [_], osl _ _ _ _ _ _] [_, _, _, _] rfl rfl (by simp only [nrmF]; rfl) rfl rfl ?_
      refine JE_nextS (k + 1, out ++ [s], ad53, cap53) (by kernel_rfl) ?_ ?_ (by kernel_rfl) ?_
      · exact ⟨by omega, by rw [len_snoc]; omega, U32.snoc hd (by omega), by rw [val_snoc, ho, hv, val_take_succ', val_take_succ', hs, Nat.mul_add]; omega, by omega, by omega⟩
      · first | omega | (dsimp only; omega)
      · exact subset_app subset_nil ss0
    · refine JL_pick_f rfl rfl ?_
      refine JL_done_up 57 [box _ _ [_], box _ _ [_], box _ _ [_], osl _ _ _ _ _ _] [_, _, _, _] rfl rfl (by simp only [nrmF]; rfl) rfl rfl ?_
      refine JC_false rfl ?_
      refine JC_exit ?_
      refine JE_then_exit ?_
      refine JE_nextS_exit ?_
      refine JE_block_exit ?_
      refine JE_then ?_
      refine JC_seq ?_
      refine JC_region ?_
      refine JL_move rfl ?_
      refine JL_build (cs := [_]) [(0, [_])] st33 ⟨⟨rfl, _, rfl, rfl⟩, rfl⟩ rfl ?_
      refine JL_callF' (Asks.cons (by first | exact holds_of_mem (by repeat (first | with_reducible exact mm0 | refine mmS ?_)) | (exact holds_of_own 3 rfl)) Asks.nil) (rnorm_con _ _ _ _ (x1 + x2) ⟨ho, hd, by rw [hv, List.take_of_length_le (by omega), List.take_of_length_le (by omega), val_limbsOf, val_limbsOf], by omega⟩) rfl ca95 ⟨rfl, rfl⟩ ?_
      rintro _ _ ⟨ad56, cap56, rfl, hk56, hm56, rfl⟩
      refine JL_store (vs := [_]) 2 ty33 rfl rfl rfl (AllOne.cons rfl AllOne.nil) rfl (Nat.le_of_ble_eq_true rfl) ?_
      refine JL_done_up 57 [box _ _ [_], box _ _ [_], box _ _ [_], osl _ _ _ _ _ _] [_, _, _, _, _] rfl rfl (by simp only [nrmF]; rfl) rfl rfl ?_
      refine JC_ret ?_
      refine JE_ret (vs := [_]) [vCells ad56 (u32s (limbsOf (x1 + x2)))] Tryd.results98 ⟨RV.cell (vs := [_]) 2 ty33 rfl rfl ⟨rfl, trivial⟩, rfl⟩ ?_ ?_
      · exact ⟨ad56, cap56, rfl, hk56, hm56, rfl⟩
      · exact (all_cons (by repeat (first | with_reducible exact mm0 | refine mmS ?_)) all_nil)

theorem rsub_con (ad1 : Option Addr) (n1 c1 : Nat) (L1 : List Nat) (x1 : Nat) (g1 : NIn n1 L1 x1 200000000) (ad2 : Option Addr) (n2 c2 : Nat) (L2 : List Nat) (x2 : Nat) (g2 : NIn n2 L2 x2 200000000) (z : Nat) (hz : x1 - x2 = z) :
    ConF Tryd.prog 97 [.agg #[.slice ad1 n1 c1], .agg #[.slice ad2 n2 c2]] [vCells ad1 (u32s L1), vCells ad2 (u32s L2)]
      (LNE z (if x1 < x2 then 2 else 0)) := by
  subst hz
  have hs1 := g1.sz
  have hl1 := g1.le
  have hs2 := g2.sz
  have hl2 := g2.le
  refine ConF_of Tryd.func97 rfl 59 _ rfl rfl ?_
  intro w0
  refine JC_norm ⟨59, [], [_, _, _, _, _, _, _, _, _, _, _, _, _, _, _, _, _, _, _, _, _, _, _, _, _, _, _, _, _, _, _, _, _, _, _, _, _, _, _, _, _, _, _, _, _, _, _, _, _, _, _, _, _, _, _, _, _, _, _]⟩ [] [_, _] rfl rfl rfl ?_
  refine JC_seq ?_
  refine JC_region ?_
  refine JL_box rfl rfl (fun b2 => ?_)
  refine JL_box rfl rfl (fun b3 => ?_)
  refine JL_alloc z33 (fun b4 => ?_)
  refine JL_assign rfl ?_
  refine JL_done_up 59 [box _ _ [_], box _ _ [_], box _ _ [_]] [_, _] rfl rfl (by simp only [nrmF]; rfl) rfl rfl ?_
  refine JC_seq ?_
  refine JC_seq ?_
  refine JC_region ?_
  refine JL_loadA (vs := [_]) 0 ty33 rfl rfl ⟨rfl, trivial⟩ ?_
  refine JL_loadA (vs := [_]) 1 ty33 rfl rfl ⟨rfl, trivial⟩ ?_
  refine JL_callF' (Asks.cons (holds_of_mem (by repeat (first | with_reducible exact mm0 | refine mmS ?_))) (Asks.cons (holds_of_mem (by repeat (first | with_reducible exact mm0 | refine mmS ?_))) Asks.nil)) (rcmp_con _ _ _ _ _ g1 _ _ _ _ _ g2) rfl ca94 ⟨rfl, rfl, rfl⟩ ?_
  rintro _ _ ⟨rfl, rfl⟩
  refine JL_lss rfl rfl ?_
  refine JL_split (fun h13 => ?_) (fun h13 => ?_)
  · refine JL_done_up 59 [box _ _ [_], box _ _ [_], box _ _ [_]] [_, _] rfl rfl (by simp only [nrmF]; rfl) rfl rfl ?_
    refine JC_true rfl ?_
    refine JC_seq ?_
    refine JC_region ?_
    refine JL_build (cs := [_]) [] st33 rfl rfl ?_
    refine JL_store (vs := [_]) 2 ty33 rfl rfl rfl (AllOne.cons rfl AllOne.nil) rfl (Nat.le_of_ble_eq_true rfl) ?_
    refine JL_assign rfl ?_
    refine JL_done_up 59 [box _ _ [_], box _ _ [_], box _ _ [_]] [_, _] rfl rfl (by simp only [nrmF]; rfl) rfl rfl ?_
    refine JC_ret ?_
    refine JE_then_ret ?_
    have hlt : x1 < x2 := cmpN_neg.1 h13
    have hz : x1 - x2 = 0 := by omega
    refine JE_nilView ?_
    refine JE_ret (vs := [_, _]) [vCells none (u32s [])] Tryd.results97 ⟨RV.cell (vs := [_]) 2 ty33 rfl rfl ⟨rfl, trivial⟩, rfl, rfl⟩ ?_ ?_
    · exact ⟨none, 0, by rw [hz, limbsOf_zero, if_pos hlt]; rfl, by rw [hz, limbsOf_zero]; exact Nat.le_refl _, by omega, by rw [hz, limbsOf_zero]⟩
    · exact (all_cons (by repeat (first | with_reducible exact mm0 | refine mmS ?_)) all_nil)
  · have hle : x2 ≤ x1 := by have := cmpN_neg (n := x1) (m := x2); omega
    have hlen := len_limbsOf_le hle
    refine JL_done_up 59 [box _ _ [_], box _ _ [_], box _ _ [_]] [_, _] rfl rfl (by simp only [nrmF]; rfl) rfl rfl ?_
    refine JC_false rfl ?_
    refine JC_skip ?_
    refine JE_then ?_
    refine JC_seq ?_
    refine JC_region ?_
    refine JL_loadA (vs := [_]) 0 ty33 rfl rfl ⟨rfl, trivial⟩ ?_
    refine JL_callF' (Asks.cons (holds_of_mem (by repeat (first | with_reducible exact mm0 | refine mmS ?_))) Asks.nil) (rnorm_con _ _ _ _ _ (g1.mono (by omega))) rfl ca95 ⟨rfl, rfl⟩ ?_
    rintro _ _ ⟨ad16, cap16, rfl, hk16, hm16, rfl⟩
    refine JL_store (vs := [_]) 0 ty33 rfl rfl rfl (AllOne.cons rfl AllOne.nil) rfl (Nat.le_of_ble_eq_true rfl) ?_
    refine JL_done_up 59 [box _ _ [_], box _ _ [_], box _ _ [_]] [_, _, _] rfl rfl (by simp only [nrmF]; rfl) rfl rfl ?_
    refine JC_seq ?_
    refine JC_region ?_
    refine JL_loadA (vs := [_]) 1 ty33 rfl rfl ⟨rfl, trivial⟩ ?_
    refine JL_callF' (Asks.cons (holds_of_mem (by repeat (first | with_reducible exact mm0 | refine mmS ?_))) Asks.nil) (rnorm_con _ _ _ _ _ (g2.mono (by omega))) rfl ca95 ⟨rfl, rfl⟩ ?_
    rintro _ _ ⟨ad18, cap18, rfl, hk18, hm18, rfl⟩
    refine JL_store (vs := [_]) 1 ty33 rfl rfl rfl (AllOne.cons rfl AllOne.nil) rfl (Nat.le_of_ble_eq_true rfl) ?_
    refine JL_done_up 59 [box _ _ [_], box _ _ [_], box _ _ [_]] [_, _, _, _] rfl rfl (by simp only [nrmF]; rfl) rfl rfl ?_
    refine JC_seq ?_
    refine JC_region ?_
    refine JL_assign rfl ?_
    refine JL_done_up 59 [box _ _ [_], box _ _ [_], box _ _ [_]] [_, _, _, _] rfl rfl (by simp only [nrmF]; rfl) rfl rfl ?_
    refine JC_seq ?_
    refine JC_region ?_
    refine JL_assign rfl ?_
    refine JL_done_up 59 [box _ _ [_], box _ _ [_], box _ _ [_]] [_, _, _, _] rfl rfl (by simp only [nrmF]; rfl) rfl rfl ?_
    refine JC_seq ?_
    refine JC_seq ?_
    refine JC_region ?_
    refine JL_assign rfl ?_
    refine JL_done_up 59 [box _ _ [_], box _ _ [_], box _ _ [_]] [_, _, _, _] rfl rfl (by simp only [nrmF]; rfl) rfl rfl ?_
    refine JC_block ?_
    refine JC_addNil 101 1 ?_
    refine JC_norm ⟨59, [], [_, _, _, _, _, _, _, _, _, _, _, _, _, _, _, _, _, _, _, _, _, _, _, _, _, _, _, _, _, _, _, _, _, _, _, _, _, _, _, _, _, _, _, _, _, _, _, _, _, _, _, _, _, _, _, _, _, _, _]⟩ [box _ _ [_], box _ _ [_], box _ _ [_], osl _ _ _ _ _ _] [_, _, _, _] rfl rfl rfl ?_
    refine JC_loopS ((Nat) × (List Nat) × (Nat) × (Option Addr) × (Nat)) (fun (k, out, c, ad, cap) => k ≤ (limbsOf x1).length ∧ out.length = k ∧ Dig out ∧ c ≤ 1 ∧ val ((limbsOf x1).take k) + 1000000000 ^ k * c = val ((limbsOf x2).take k) + val out ∧ k ≤ cap ∧ cap ≤ 9223372036854775807) (fun (k, out, c, ad, cap) => (limbsOf x1).length - k) (fun u (k, out, c, ad, cap) => [none, none, none, none, none, none, some (.slice ad k cap), some (.int .i64 (c : Nat)), some (.int .i64 (k : Nat)), some (u 9), none, none, none, none, none, none, none, none, none, some (u 19), some (u 20), some (u 21), some (u 22), some (u 23), some (u 24), some (u 25), some (u 26), some (u 27), some (u 28), some (u 29), some (u 30), some (u 31), some (u 32), some (u 33), some (u 34), some (u 35), some (u 36), some (u 37), some (u 38), some (u 39), some (u 40), some (u 41), some (u 42), some (u 43), some (u 44), some (u 45), some (u 46), some (u 47), some (u 48), some (u 49), some (u 50), some (u 51), some (u 52), some (u 53), some (u 54), some (u 55), none, none, none]) (fun (k, out, c, ad, cap) => [none, none, none, some (osl ad k cap 101 1 (u32s out))]) (fun (k, out, c, ad, cap) => []) (0, [], 0, none, 0) (by kernel_rfl) ?_ (by kernel_rfl) ?_ ?_
    · exact ⟨Nat.zero_le _, rfl, Dig.nil, by omega, by simp [val], by omega, by omega⟩
    · exact subset_nil
    intro u i hC
    obtain ⟨k, out, c, ad, cap⟩ := i
    obtain ⟨hk, ho, hd, hc, hv, hcap, hm⟩ := hC
    refine JC_norm ⟨59, [], [_, _, _, _, _, _, _, _, _, _, _, _, _, _, _, _, _, _, _, _, _, _, _, _, _, _, _, _, _, _, _, _, _, _, _, _, _, _, _, _, _, _, _, _, _, _, _, _, _, _, _, _, _, _, _, _, _, _, _]⟩ [box _ _ [_], box _ _ [_], box _ _ [_], osl _ _ _ _ _ _] [_, _, _, _] rfl rfl rfl ?_
    have hX := (dig_limbsOf x1).getD k
    have hY := (dig_limbsOf x2).getD k
    refine JC_seq ?_
    refine JC_seq ?_
    refine JC_region ?_
    refine JL_move rfl ?_
    refine JL_fieldAddr fo33_0 rfl ?_
    refine JL_load 0 ty31 rfl rfl rfl ?_
    refine JL_len sl31 rfl ?_
    refine JL_lss rfl rfl ?_
    refine JL_split (fun h23 => ?_) (fun h23 => ?_)
    · refine JL_done_up 59 [box _ _ [_], box _ _ [_], box _ _ [_], osl _ _ _ _ _ _] [_, _, _, _] rfl rfl (by simp only [nrmF]; rfl) rfl rfl ?_
      refine JC_true rfl ?_
      refine JC_skip ?_
      refine JE_then ?_
      refine JC_seq ?_
      refine JC_block ?_
      refine JC_seq ?_
      refine JC_region ?_
      refine JL_fieldAddr fo33_0 rfl ?_
      refine JL_load 0 ty31 rfl rfl rfl ?_
      refine JL_move rfl ?_
      refine JL_idx k sl31 rfl rfl rfl (by omega) (Reads.view (List.mem_cons_of_mem _ List.mem_cons_self)) (by first | (rw [u32s_length]; omega) | (rw [i64s_length]; omega)) ?_
      refine JL_loadE ty101 rfl (Reads.view (List.mem_cons_of_mem _ List.mem_cons_self)) (u32s_get (by omega)) ?_
      refine JL_convInt us101 it2 rfl (IntWalk.i64_in _ (by omega)) ?_
      refine JL_move rfl ?_
      refine JL_sub_to rfl rfl (IntWalk.i64_in _ (by omega)) ?_
      refine JL_assign rfl ?_
      refine JL_done_up 59 [box _ _ [_], box _ _ [_], box _ _ [_], osl _ _ _ _ _ _] [_, _, _, _] rfl rfl (by simp only [nrmF]; rfl) rfl rfl ?_
      refine JC_seq ?_
      refine JC_seq ?_
      refine JC_region ?_
      refine JL_move rfl ?_
      refine JL_fieldAddr fo33_0 rfl ?_
      refine JL_load 1 ty31 rfl rfl rfl ?_
      refine JL_len sl31 rfl ?_
      refine JL_lss rfl rfl ?_
      refine JL_done_up 59 [box _ _ [_], box _ _ [_], box _ _ [_], osl _ _ _ _ _ _] [_, _, _, _] rfl rfl (by simp only [nrmF]; rfl) rfl rfl ?_
      refine JC_cutT ((Int)) (fun (t : Int) => t = ((limbsOf x1).getD k 0 : Nat) - (c : Nat) - ((limbsOf x2).getD k 0 : Nat)) (fun u (t : Int) => [none, none, none, none, none, none, none, none, none, some (.int .i64 t), none, none, none, none, none, none, none, none, none, none, none, none, none, none, none, none, none, none, none, none, none, none, none, none, none, none, none, none, none, some (u 39), some (u 40), some (u 41), some (u 42), some (u 43), some (u 44), some (u 45), some (u 46), none, none, none, none, none, none, none, none, none, none, none, none]) (fun (t : Int) => [none, none, none, none]) (fun (t : Int) => []) ?_ ?_
      · refine JC_cond rfl (fun hb => ?_) (fun hb => ?_)
        · have h38 := of_decide_eq_true hb
          refine JC_region ?_
          refine JL_move rfl ?_
          refine JL_fieldAddr fo33_0 rfl ?_
          refine JL_load 1 ty31 rfl rfl rfl ?_
          refine JL_move rfl ?_
          refine JL_idx k sl31 rfl rfl rfl (by omega) (Reads.view List.mem_cons_self) (by first | (rw [u32s_length]; omega) | (rw [i64s_length]; omega)) ?_
          refine JL_loadE ty101 rfl (Reads.view List.mem_cons_self) (u32s_get (by omega)) ?_
          refine JL_convInt us101 it2 rfl (IntWalk.i64_in _ (by omega)) ?_
          refine JL_sub_to rfl rfl (IntWalk.i64_in _ (by omega)) ?_
          refine JL_assign rfl ?_
          refine JL_nil_up 59 [box _ _ [_], box _ _ [_], box _ _ [_], osl _ _ _ _ _ _] [_, _, _, _] rfl rfl (by simp only [nrmF]; rfl) rfl rfl ?_
          refine JE_midS (((limbsOf x1).getD k 0 : Nat) - (c : Nat) - ((limbsOf x2).getD k 0 : Nat)) (by kernel_rfl) ?_ (by kernel_rfl) ?_
          · exact rfl
          · exact subset_app subset_nil ss0
        · have h38 := of_decide_eq_false hb
          refine JC_skip ?_
          refine JE_midS (((limbsOf x1).getD k 0 : Nat) - (c : Nat)) (by kernel_rfl) ?_ (by kernel_rfl) ?_
          · show _ = _ - _; rw [getD_of_ge (limbsOf x2) k (by omega)]; omega
          · exact subset_app subset_nil ss0
      intro u t ht
      refine JC_norm ⟨59, [], [_, _, _, _, _, _, _, _, _, _, _, _, _, _, _, _, _, _, _, _, _, _, _, _, _, _, _, _, _, _, _, _, _, _, _, _, _, _, _, _, _, _, _, _, _, _, _, _, _, _, _, _, _, _, _, _, _, _, _]⟩ [box _ _ [_], box _ _ [_], box _ _ [_], osl _ _ _ _ _ _] [_, _, _, _] rfl rfl rfl ?_
      refine JC_seq ?_
      refine JC_region ?_
      refine JL_assign rfl ?_
      refine JL_done_up 59 [box _ _ [_], box _ _ [_], box _ _ [_], osl _ _ _ _ _ _] [_, _, _, _] rfl rfl (by simp only [nrmF]; rfl) rfl rfl ?_
      refine JC_seq ?_
      refine JC_seq ?_
      refine JC_region ?_
      refine JL_move rfl ?_
      refine JL_lss rfl rfl ?_
      refine JL_done_up 59 [box _ _ [_], box _ _ [_], box _ _ [_], osl _ _ _ _ _ _] [_, _, _, _] rfl rfl (by simp only [nrmF]; rfl) rfl rfl ?_
      refine JC_cutT ((Int) × (Nat)) (fun (d, c2) => 0 ≤ d ∧ d < 1000000000 ∧ c2 ≤ 1 ∧ ((limbsOf x1).getD k 0 : Int) + 1000000000 * c2 = (limbsOf x2).getD k 0 + c + d) (fun u (d, c2) => [none, none, none, none, none, none, none, some (.int .i64 (c2 : Nat)), none, some (.int .i64 d), none, none, none, none, none, none, none, none, none, none, none, none, none, none, none, none, none, none, none, none, none, none, none, none, none, none, none, none, none, none, none, none, none, none, none, none, none, none, none, some (u 49), some (u 50), none, none, none, none, none, none, none, none]) (fun (d, c2) => [none, none, none, none]) (fun (d, c2) => []) ?_ ?_
      · refine JC_cond rfl (fun hb => ?_) (fun hb => ?_)
        · have h48 := of_decide_eq_true hb
          refine JC_seq ?_
          refine JC_region ?_
          refine JL_move rfl ?_
          refine JL_add_to rfl rfl (IntWalk.i64_in _ (by omega)) ?_
          refine JL_assign rfl ?_
          refine JL_done_up 59 [box _ _ [_], box _ _ [_], box _ _ [_], osl _ _ _ _ _ _] [_, _, _, _] rfl rfl (by simp only [nrmF]; rfl) rfl rfl ?_
          refine JC_region ?_
          refine JL_assign rfl ?_
          refine JL_nil_up 59 [box _ _ [_], box _ _ [_], box _ _ [_], osl _ _ _ _ _ _] [_, _, _, _] rfl rfl (by simp only [nrmF]; rfl) rfl rfl ?_
          refine JE_midS (t + 1000000000, 1) (by kernel_rfl) ?_ (by kernel_rfl) ?_
          · exact ⟨by omega, by omega, by omega, by omega⟩
          · exact subset_app subset_nil ss0
        · have h48 := of_decide_eq_false hb
          refine JC_skip ?_
          refine JE_midS (t, 0) (by kernel_rfl) ?_ (by kernel_rfl) ?_
          · exact ⟨by omega, by omega, by omega, by omega⟩
          · exact subset_app subset_nil ss0
      intro u i hC
      obtain ⟨d, c2⟩ := i
      obtain ⟨hd0, hd1, hc2, hdd⟩ := hC
      refine JC_norm ⟨59, [], [_, _, _, _, _, _, _, _, _, _, _, _, _, _, _, _, _, _, _, _, _, _, _, _, _, _, _, _, _, _, _, _, _, _, _, _, _, _, _, _, _, _, _, _, _, _, _, _, _, _, _, _, _, _, _, _, _, _, _]⟩ [box _ _ [_], box _ _ [_], box _ _ [_], osl _ _ _ _ _ _] [_, _, _, _] rfl rfl rfl ?_
      refine JC_region ?_
      refine JL_move rfl ?_
      refine JL_move rfl ?_
      refine JL_convInt us2 it101 rfl (IntWalk.u32_in _ (by omega)) ?_
      refine JL_build1 sl31 rfl rfl (fun g54 => ?_)
      refine JL_appendU (L := _) 3 4 d.toNat sl31 rfl rfl rfl rfl (by omega) (by omega) (by omega) (fun ad55 cap55 hc55 => ?_)
      refine JL_dropAt 4 ?_
      refine JL_norm _ [box _ _ [_], box _ _ [_], box _ _ [_], osl _ _ _ _ _ _] [_, _, _, _] rfl rfl rfl ?_
      refine JL_assign rfl ?_
      refine JL_nil_up 59 [box _ _ [_], box _ _ [_], box _ _ [_], osl _ _ _ _ _ _] [_, _, _, _] rfl rfl (by simp only [nrmF]; rfl) rfl rfl ?_
      refine JE_block_normal ?_
      refine JE_then ?_
      refine JC_region ?_
      refine JL_move rfl ?_
      refine JL_add_to rfl rfl (IntWalk.i64_in _ (by omega)) ?_
      refine JL_assign rfl ?_
      refine JL_nil_up 59 [box _ _ [_], box _ _ [_], box _ _ [_], osl _ _ _ _ _ _] [_, _, _, _] rfl rfl (by simp only [nrmF]; rfl) rfl rfl ?_
      refine JE_nextS (k + 1, out ++ [d.toNat], c2, ad55, cap55) (by kernel_rfl) ?_ ?_ (by kernel_rfl) ?_
      · exact ⟨by omega, by rw [len_snoc]; omega, dig_snoc hd (by omega), by omega, minus_step ho hv (by omega), by omega, by omega⟩
      · first | omega | (dsimp only; omega)
      · exact subset_app subset_nil ss0
    · refine JL_done_up 59 [box _ _ [_], box _ _ [_], box _ _ [_], osl _ _ _ _ _ _] [_, _, _, _] rfl rfl (by simp only [nrmF]; rfl) rfl rfl ?_
      refine JC_false rfl ?_
      refine JC_exit ?_
      refine JE_then_exit ?_
      refine JE_nextS_exit ?_
      refine JE_block_exit ?_
      refine JE_then ?_
      refine JC_seq ?_
      refine JC_region ?_
      refine JL_move rfl ?_
      refine JL_build (cs := [_]) [(0, [_])] st33 ⟨⟨rfl, _, rfl, rfl⟩, rfl⟩ rfl ?_
      refine JL_callF' (Asks.cons (by first | exact holds_of_mem (by repeat (first | with_reducible exact mm0 | refine mmS ?_)) | (exact holds_of_own 3 rfl)) Asks.nil) (rnorm_con _ _ _ _ (x1 - x2) ⟨ho, U32.ofDig hd, by rw [minus_val (A := (limbsOf x1)) (C := (limbsOf x2)) ho hd (by omega) (by rw [val_limbsOf, val_limbsOf]; exact hle) (by omega) hv, val_limbsOf, val_limbsOf], by omega⟩) rfl ca95 ⟨rfl, rfl⟩ ?_
      rintro _ _ ⟨ad58, cap58, rfl, hk58, hm58, rfl⟩
      refine JL_store (vs := [_]) 2 ty33 rfl rfl rfl (AllOne.cons rfl AllOne.nil) rfl (Nat.le_of_ble_eq_true rfl) ?_
      refine JL_assign rfl ?_
      refine JL_done_up 59 [box _ _ [_], box _ _ [_], box _ _ [_], osl _ _ _ _ _ _] [_, _, _, _, _] rfl rfl (by simp only [nrmF]; rfl) rfl rfl ?_
      refine JC_ret ?_
      refine JE_ret (vs := [_, _]) [vCells ad58 (u32s (limbsOf (x1 - x2)))] Tryd.results97 ⟨RV.cell (vs := [_]) 2 ty33 rfl rfl ⟨rfl, trivial⟩, rfl, rfl⟩ ?_ ?_
      · exact ⟨ad58, cap58, by rw [if_neg (by omega)]; rfl, hk58, hm58, rfl⟩
      · exact (all_cons (by repeat (first | with_reducible exact mm0 | refine mmS ?_)) all_nil)

theorem rmul_con (ad1 : Option Addr) (n1 c1 : Nat) (L1 : List Nat) (x1 : Nat) (g1 : NIn n1 L1 x1 200000000) (ad2 : Option Addr) (n2 c2 : Nat) (L2 : List Nat) (x2 : Nat) (g2 : NIn n2 L2 x2 200000000) (z : Nat) (hz : x1 * x2 = z) :
    ConF Tryd.prog 96 [.agg #[.slice ad1 n1 c1], .agg #[.slice ad2 n2 c2]] [vCells ad1 (u32s L1), vCells ad2 (u32s L2)]
      (LN z) := by
  subst hz
  have hs1 := g1.sz
  have hl1 := g1.le
  have hs2 := g2.sz
  have hl2 := g2.le
  refine ConF_of Tryd.func96 rfl 83 _ rfl rfl ?_
  intro w0
  refine JC_norm ⟨83, [], [_, _, _, _, _, _, _, _, _, _, _, _, _, _, _, _, _, _, _, _, _, _, _, _, _, _, _, _, _, _, _, _, _, _, _, _, _, _, _, _, _, _, _, _, _, _, _, _, _, _, _, _, _, _, _, _, _, _, _, _, _, _, _, _, _, _, _, _, _, _, _, _, _, _, _, _, _, _, _, _, _, _, _]⟩ [] [_, _] rfl rfl rfl ?_
  refine JC_seq ?_
  refine JC_region ?_
  refine JL_box rfl rfl (fun b2 => ?_)
  refine JL_box rfl rfl (fun b3 => ?_)
  refine JL_alloc z33 (fun b4 => ?_)
  refine JL_done_up 83 [box _ _ [_], box _ _ [_], box _ _ [_]] [_, _] rfl rfl (by simp only [nrmF]; rfl) rfl rfl ?_
  refine JC_seq ?_
  refine JC_region ?_
  refine JL_loadA (vs := [_]) 0 ty33 rfl rfl ⟨rfl, trivial⟩ ?_
  refine JL_callF' (Asks.cons (holds_of_mem (by repeat (first | with_reducible exact mm0 | refine mmS ?_))) Asks.nil) (rnorm_con _ _ _ _ _ (g1.mono (by omega))) rfl ca95 ⟨rfl, rfl⟩ ?_
  rintro _ _ ⟨ad11, cap11, rfl, hk11, hm11, rfl⟩
  refine JL_store (vs := [_]) 0 ty33 rfl rfl rfl (AllOne.cons rfl AllOne.nil) rfl (Nat.le_of_ble_eq_true rfl) ?_
  refine JL_done_up 83 [box _ _ [_], box _ _ [_], box _ _ [_]] [_, _, _] rfl rfl (by simp only [nrmF]; rfl) rfl rfl ?_
  refine JC_seq ?_
  refine JC_region ?_
  refine JL_loadA (vs := [_]) 1 ty33 rfl rfl ⟨rfl, trivial⟩ ?_
  refine JL_callF' (Asks.cons (holds_of_mem (by repeat (first | with_reducible exact mm0 | refine mmS ?_))) Asks.nil) (rnorm_con _ _ _ _ _ (g2.mono (by omega))) rfl ca95 ⟨rfl, rfl⟩ ?_
  rintro _ _ ⟨ad13, cap13, rfl, hk13, hm13, rfl⟩
  refine JL_store (vs := [_]) 1 ty33 rfl rfl rfl (AllOne.cons rfl AllOne.nil) rfl (Nat.le_of_ble_eq_true rfl) ?_
  refine JL_done_up 83 [box _ _ [_], box _ _ [_], box _ _ [_]] [_, _, _, _] rfl rfl (by simp only [nrmF]; rfl) rfl rfl ?_
  refine JC_seq ?_
  refine JC_region ?_
  refine JL_fieldAddr fo33_0 rfl ?_
  refine JL_load 0 ty31 rfl rfl rfl ?_
  refine JL_len sl31 rfl ?_
  refine JL_fieldAddr fo33_0 rfl ?_
  refine JL_load 1 ty31 rfl rfl rfl ?_
  refine JL_len sl31 rfl ?_
  refine JL_add_to rfl rfl (IntWalk.i64_in _ (by omega)) ?_
  refine JL_add_to rfl rfl (IntWalk.i64_in _ (by omega)) ?_
  refine JL_make1 ((limbsOf x1).length + (limbsOf x2).length + 1) ((limbsOf x1).length + (limbsOf x2).length + 1) sl31 rfl rfl (by omega) (by omega) (by omega) (by omega) (by omega) (fun g22 => ?_)
  rw [u32s_replicate]
  refine JL_assign rfl ?_
  refine JL_done_up 83 [box _ _ [_], box _ _ [_], box _ _ [_], osl _ _ _ _ _ _] [_, _, _, _] rfl rfl (by simp only [nrmF]; rfl) rfl rfl ?_
  refine JC_seq ?_
  refine JC_seq ?_
  refine JC_region ?_
  refine JL_assign rfl ?_
  refine JL_done_up 83 [box _ _ [_], box _ _ [_], box _ _ [_], osl _ _ _ _ _ _] [_, _, _, _] rfl rfl (by simp only [nrmF]; rfl) rfl rfl ?_
  refine JC_block ?_
  refine JC_loopS ((Nat) × (List Nat)) (fun (i, out) => i ≤ (limbsOf x1).length ∧ out.length = (limbsOf x1).length + (limbsOf x2).length + 1 ∧ Dig out ∧ val out = val ((limbsOf x1).take i) * val (limbsOf x2) ∧ ∀ l, i + (limbsOf x2).length ≤ l → out.getD l 0 = 0) (fun (i, out) => (limbsOf x1).length - i) (fun u (i, out) => [none, none, none, none, none, none, some (.int .i64 (i : Nat)), some (u 7), some (u 8), some (u 9), none, none, none, none, none, none, none, none, none, none, none, none, none, some (u 23), some (u 24), some (u 25), some (u 26), some (u 27), some (u 28), some (u 29), some (u 30), some (u 31), some (u 32), some (u 33), some (u 34), some (u 35), some (u 36), some (u 37), some (u 38), some (u 39), some (u 40), some (u 41), some (u 42), some (u 43), some (u 44), some (u 45), some (u 46), some (u 47), some (u 48), some (u 49), some (u 50), some (u 51), some (u 52), some (u 53), some (u 54), some (u 55), some (u 56), some (u 57), some (u 58), some (u 59), some (u 60), some (u 61), some (u 62), some (u 63), some (u 64), some (u 65), some (u 66), some (u 67), some (u 68), some (u 69), some (u 70), some (u 71), some (u 72), some (u 73), some (u 74), some (u 75), some (u 76), some (u 77), some (u 78), some (u 79), none, none, none]) (fun (i, out) => [none, none, none, some (osl (some ⟨g22, 0, none⟩) ((limbsOf x1).length + (limbsOf x2).length + 1) ((limbsOf x1).length + (limbsOf x2).length + 1) 101 1 (u32s out))]) (fun (i, out) => []) (0, List.replicate ((limbsOf x1).length + (limbsOf x2).length + 1) 0) (by kernel_rfl) ?_ (by kernel_rfl) ?_ ?_
  · exact ⟨Nat.zero_le _, List.length_replicate, Dig.replicate _, by rw [val_replicate]; simp [val], fun l _ => getD_replicate _ l⟩
  · exact subset_nil
  intro u i hC
  obtain ⟨i, out⟩ := i
  obtain ⟨hi, ho, hd, hv, hz⟩ := hC
  refine JC_norm ⟨83, [], [_, _, _, _, _, _, _, _, _, _, _, _, _, _, _, _, _, _, _, _, _, _, _, _, _, _, _, _, _, _, _, _, _, _, _, _, _, _, _, _, _, _, _, _, _, _, _, _, _, _, _, _, _, _, _, _, _, _, _, _, _, _, _, _, _, _, _, _, _, _, _, _, _, _, _, _, _, _, _, _, _, _, _]⟩ [box _ _ [_], box _ _ [_], box _ _ [_], osl _ _ _ _ _ _] [_, _, _, _] rfl rfl rfl ?_
  have hX := (dig_limbsOf x1).getD i
  refine JC_seq ?_
  refine JC_seq ?_
  refine JC_region ?_
  refine JL_move rfl ?_
  refine JL_fieldAddr fo33_0 rfl ?_
  refine JL_load 0 ty31 rfl rfl rfl ?_
  refine JL_len sl31 rfl ?_
  refine JL_lss rfl rfl ?_
  refine JL_split (fun h27 => ?_) (fun h27 => ?_)
  · refine JL_done_up 83 [box _ _ [_], box _ _ [_], box _ _ [_], osl _ _ _ _ _ _] [_, _, _, _] rfl rfl (by simp only [nrmF]; rfl) rfl rfl ?_
    refine JC_true rfl ?_
    refine JC_skip ?_
    refine JE_then ?_
    refine JC_seq ?_
    refine JC_block ?_
    refine JC_seq ?_
    refine JC_region ?_
    refine JL_assign rfl ?_
    refine JL_done_up 83 [box _ _ [_], box _ _ [_], box _ _ [_], osl _ _ _ _ _ _] [_, _, _, _] rfl rfl (by simp only [nrmF]; rfl) rfl rfl ?_
    refine JC_seq ?_
    refine JC_region ?_
    refine JL_assign rfl ?_
    refine JL_done_up 83 [box _ _ [_], box _ _ [_], box _ _ [_], osl _ _ _ _ _ _] [_, _, _, _] rfl rfl (by simp only [nrmF]; rfl) rfl rfl ?_
    refine JC_block ?_
    refine JC_loopS ((Nat) × (List Nat) × (Nat)) (fun (k, o2, c) => (k ≤ (limbsOf x2).length ∨ (k = (limbsOf x2).length + 1 ∧ c = 0)) ∧ o2.length = (limbsOf x1).length + (limbsOf x2).length + 1 ∧ Dig o2 ∧ c < 1000000000 ∧ val o2 + 1000000000 ^ (i + k) * c = val ((limbsOf x1).take i) * val (limbsOf x2) + 1000000000 ^ i * ((limbsOf x1).getD i 0 * val ((limbsOf x2).take k)) ∧ (∀ l, i + (limbsOf x2).length + 1 ≤ l → o2.getD l 0 = 0) ∧ (k ≤ (limbsOf x2).length → o2.getD (i + (limbsOf x2).length) 0 = 0)) (fun (k, o2, c) => (limbsOf x2).length + 1 - k) (fun u (k, o2, c) => [none, none, none, none, none, none, none, some (.int .u64 (c : Nat)), some (.int .i64 (k : Nat)), some (u 9), none, none, none, none, none, none, none, none, none, none, none, none, none, none, none, none, none, none, none, none, some (u 30), some (u 31), some (u 32), some (u 33), some (u 34), some (u 35), some (u 36), some (u 37), some (u 38), some (u 39), some (u 40), some (u 41), some (u 42), some (u 43), some (u 44), some (u 45), some (u 46), some (u 47), some (u 48), some (u 49), some (u 50), some (u 51), some (u 52), some (u 53), some (u 54), some (u 55), some (u 56), some (u 57), some (u 58), some (u 59), some (u 60), some (u 61), some (u 62), some (u 63), some (u 64), some (u 65), some (u 66), some (u 67), some (u 68), some (u 69), some (u 70), some (u 71), some (u 72), some (u 73), some (u 74), some (u 75), some (u 76), some (u 77), some (u 78), some (u 79), none, none, none]) (fun (k, o2, c) => [none, none, none, some (osl (some ⟨g22, 0, none⟩) ((limbsOf x1).length + (limbsOf x2).length + 1) ((limbsOf x1).length + (limbsOf x2).length + 1) 101 1 (u32s o2))]) (fun (k, o2, c) => []) (0, out, 0) (by kernel_rfl) ?_ (by kernel_rfl) ?_ ?_
    · exact ⟨.inl (Nat.zero_le _), ho, hd, by omega, by rw [hv]; simp [val], fun l hl => hz l (by omega), fun _ => hz _ (Nat.le_refl _)⟩
    · exact subset_nil
    intro u i hC
    obtain ⟨k, o2, c⟩ := i
    obtain ⟨hk, ho2, hd2, hc, hv2, hz2, hz3⟩ := hC
    refine JC_norm ⟨83, [], [_, _, _, _, _, _, _, _, _, _, _, _, _, _, _, _, _, _, _, _, _, _, _, _, _, _, _, _, _, _, _, _, _, _, _, _, _, _, _, _, _, _, _, _, _, _, _, _, _, _, _, _, _, _, _, _, _, _, _, _, _, _, _, _, _, _, _, _, _, _, _, _, _, _, _, _, _, _, _, _, _, _, _]⟩ [box _ _ [_], box _ _ [_], box _ _ [_], osl _ _ _ _ _ _] [_, _, _, _] rfl rfl rfl ?_
    have hY := (dig_limbsOf x2).getD k
    have hO := hd2.getD (i + k)
    have hxy : ((limbsOf x1).getD i 0 * (limbsOf x2).getD k 0) ≤ 999999999 * 999999999 := Nat.mul_le_mul (by omega) (by omega)
    have hct := times_carry hX hY hO hc
    have hge : (limbsOf x2).length ≤ k → ((limbsOf x1).getD i 0 * (limbsOf x2).getD k 0) = 0 := fun h => by rw [getD_of_ge (limbsOf x2) k h, Nat.mul_zero]
    have ho0 : k = (limbsOf x2).length → o2.getD (i + k) 0 = 0 := fun h => by rw [h]; exact hz3 (by omega)
    refine JC_seq ?_
    refine JC_seq ?_
    refine JC_region ?_
    refine JL_move rfl ?_
    refine JL_fieldAddr fo33_0 rfl ?_
    refine JL_load 1 ty31 rfl rfl rfl ?_
    refine JL_len sl31 rfl ?_
    refine JL_lss rfl rfl ?_
    refine JL_split (fun h34 => ?_) (fun h34 => ?_)
    · refine JL_move rfl ?_
      refine JL_guard_no rfl rfl ?_
      refine JL_guard_no rfl rfl ?_
      refine JL_pick_t rfl rfl ?_
      refine JL_done_up 83 [box _ _ [_], box _ _ [_], box _ _ [_], osl _ _ _ _ _ _] [_, _, _, _] rfl rfl (by simp only [nrmF]; rfl) rfl rfl ?_
      refine JC_true rfl ?_
      refine JC_skip ?_
      refine JE_then ?_
      refine JC_seq ?_
      refine JC_block ?_
      refine JC_seq ?_
      refine JC_region ?_
      refine JL_move rfl ?_
      refine JL_move rfl ?_
      refine JL_move rfl ?_
      refine JL_add_to rfl rfl (IntWalk.i64_in _ (by omega)) ?_
      refine JL_idx (i + k) sl31 rfl rfl rfl (by omega) (Reads.own 3 rfl) (by first | (rw [u32s_length]; omega) | (rw [i64s_length]; omega)) ?_
      refine JL_loadE ty101 rfl (Reads.own 3 rfl) (u32s_get (by omega)) ?_
      refine JL_convInt us101 it87 rfl (IntWalk.u64_in _ (by omega)) ?_
      refine JL_move rfl ?_
      refine JL_add_to rfl rfl (IntWalk.u64_in _ (by omega)) ?_
      refine JL_assign rfl ?_
      refine JL_done_up 83 [box _ _ [_], box _ _ [_], box _ _ [_], osl _ _ _ _ _ _] [_, _, _, _] rfl rfl (by simp only [nrmF]; rfl) rfl rfl ?_
      refine JC_seq ?_
      refine JC_seq ?_
      refine JC_region ?_
      refine JL_move rfl ?_
      refine JL_fieldAddr fo33_0 rfl ?_
      refine JL_load 1 ty31 rfl rfl rfl ?_
      refine JL_len sl31 rfl ?_
      refine JL_lss rfl rfl ?_
      refine JL_done_up 83 [box _ _ [_], box _ _ [_], box _ _ [_], osl _ _ _ _ _ _] [_, _, _, _] rfl rfl (by simp only [nrmF]; rfl) rfl rfl ?_
      refine JC_cutT ((Nat)) (fun (t : Nat) => t = o2.getD (i + k) 0 + c + ((limbsOf x1).getD i 0 * (limbsOf x2).getD k 0)) (fun u (t : Nat) => [none, none, none, none, none, none, none, none, none, some (.int .u64 (t : Nat)), none, none, none, none, none, none, none, none, none, none, none, none, none, none, none, none, none, none, none, none, none, none, none, none, none, none, none, none, none, none, none, none, none, none, none, none, none, none, none, none, none, none, none, none, none, some (u 55), some (u 56), some (u 57), some (u 58), some (u 59), some (u 60), some (u 61), some (u 62), some (u 63), some (u 64), some (u 65), some (u 66), some (u 67), some (u 68), some (u 69), none, none, none, none, none, none, none, none, none, none, none, none, none]) (fun (t : Nat) => [none, none, none, none]) (fun (t : Nat) => []) ?_ ?_
      · refine JC_cond rfl (fun hb => ?_) (fun hb => ?_)
        · have h54 := of_decide_eq_true hb
          refine JC_drawT mixed 14 [spV 55 [] _, spV 56 [] _, spV 57 [1] _, spV 58 [] _, spV 59 [2, 3] _, spV 60 [4] _, spV 61 [5] _, spV 62 [] _, spV 63 [7] _, spV 64 [] _, spV 65 [8, 9] _, spV 66 [10] _, spV 67 [11] _, spV 68 [6, 12] _] ⟨OblS_V (fun vals ex ψ => (by
              refine JL_normQ ⟨83, [(55, _), (56, _), (57, _), (58, _), (59, _), (60, _), (61, _), (62, _), (63, _), (64, _), (65, _), (66, _), (67, _), (68, _)], _⟩ (_ :: _ :: _ :: _ :: ψ) rfl rfl ?_
              refine JL_move rfl ?_
              exact JL_nil (JE_stepV rfl ss0))), OblS_V (fun vals ex ψ => (by
              refine JL_normQ ⟨83, [(55, _), (56, _), (57, _), (58, _), (59, _), (60, _), (61, _), (62, _), (63, _), (64, _), (65, _), (66, _), (67, _), (68, _)], _⟩ (_ :: _ :: _ :: _ :: ψ) rfl rfl ?_
              refine JL_fieldAddr fo33_0 rfl ?_
              exact JL_nil (JE_stepV rfl ss0))), OblS_V (fun vals ex ψ => (by
              refine JL_normQ ⟨83, [(55, _), (56, _), (57, _), (58, _), (59, _), (60, _), (61, _), (62, _), (63, _), (64, _), (65, _), (66, _), (67, _), (68, _)], _⟩ (_ :: _ :: _ :: _ :: ψ) rfl rfl ?_
              refine JL_load 0 ty31 rfl rfl rfl ?_
              exact JL_nil (JE_stepV rfl ss0))), OblS_V (fun vals ex ψ => (by
              refine JL_normQ ⟨83, [(55, _), (56, _), (57, _), (58, _), (59, _), (60, _), (61, _), (62, _), (63, _), (64, _), (65, _), (66, _), (67, _), (68, _)], _⟩ (_ :: _ :: _ :: _ :: ψ) rfl rfl ?_
              refine JL_move rfl ?_
              exact JL_nil (JE_stepV rfl ss0))), OblS_V (fun vals ex ψ => (by
              refine JL_normQ ⟨83, [(55, _), (56, _), (57, _), (58, _), (59, _), (60, _), (61, _), (62, _), (63, _), (64, _), (65, _), (66, _), (67, _), (68, _)], _⟩ (_ :: _ :: _ :: _ :: ψ) rfl rfl ?_
              refine JL_idx i sl31 rfl rfl rfl (by omega) (Reads.view (List.mem_cons_of_mem _ List.mem_cons_self)) (by first | (rw [u32s_length]; omega) | (rw [i64s_length]; omega)) ?_
              exact JL_nil (JE_stepV rfl ss0))), OblS_V (fun vals ex ψ => (by
              refine JL_normQ ⟨83, [(55, _), (56, _), (57, _), (58, _), (59, _), (60, _), (61, _), (62, _), (63, _), (64, _), (65, _), (66, _), (67, _), (68, _)], _⟩ (_ :: _ :: _ :: _ :: ψ) rfl rfl ?_
              refine JL_loadE ty101 rfl (Reads.view (List.mem_cons_of_mem _ List.mem_cons_self)) (u32s_get (by omega)) ?_
              exact JL_nil (JE_stepV rfl ss0))), OblS_V (fun vals ex ψ => (by
              refine JL_normQ ⟨83, [(55, _), (56, _), (57, _), (58, _), (59, _), (60, _), (61, _), (62, _), (63, _), (64, _), (65, _), (66, _), (67, _), (68, _)], _⟩ (_ :: _ :: _ :: _ :: ψ) rfl rfl ?_
              refine JL_convInt us101 it87 rfl (IntWalk.u64_in _ (by omega)) ?_
              exact JL_nil (JE_stepV rfl ss0))), OblS_V (fun vals ex ψ => (by
              refine JL_normQ ⟨83, [(55, _), (56, _), (57, _), (58, _), (59, _), (60, _), (61, _), (62, _), (63, _), (64, _), (65, _), (66, _), (67, _), (68, _)], _⟩ (_ :: _ :: _ :: _ :: ψ) rfl rfl ?_
              refine JL_fieldAddr fo33_0 rfl ?_
              exact JL_nil (JE_stepV rfl ss0))), OblS_V (fun vals ex ψ => (by
              refine JL_normQ ⟨83, [(55, _), (56, _), (57, _), (58, _), (59, _), (60, _), (61, _), (62, _), (63, _), (64, _), (65, _), (66, _), (67, _), (68, _)], _⟩ (_ :: _ :: _ :: _ :: ψ) rfl rfl ?_
              refine JL_load 1 ty31 rfl rfl rfl ?_
              exact JL_nil (JE_stepV rfl ss0))), OblS_V (fun vals ex ψ => (by
              refine JL_normQ ⟨83, [(55, _), (56, _), (57, _), (58, _), (59, _), (60, _), (61, _), (62, _), (63, _), (64, _), (65, _), (66, _), (67, _), (68, _)], _⟩ (_ :: _ :: _ :: _ :: ψ) rfl rfl ?_
              refine JL_move rfl ?_
              exact JL_nil (JE_stepV rfl ss0))), OblS_V (fun vals ex ψ => (by
              refine JL_normQ ⟨83, [(55, _), (56, _), (57, _), (58, _), (59, _), (60, _), (61, _), (62, _), (63, _), (64, _), (65, _), (66, _), (67, _), (68, _)], _⟩ (_ :: _ :: _ :: _ :: ψ) rfl rfl ?_
              refine JL_idx k sl31 rfl rfl rfl (by omega) (Reads.view List.mem_cons_self) (by first | (rw [u32s_length]; omega) | (rw [i64s_length]; omega)) ?_
              exact JL_nil (JE_stepV rfl ss0))), OblS_V (fun vals ex ψ => (by
              refine JL_normQ ⟨83, [(55, _), (56, _), (57, _), (58, _), (59, _), (60, _), (61, _), (62, _), (63, _), (64, _), (65, _), (66, _), (67, _), (68, _)], _⟩ (_ :: _ :: _ :: _ :: ψ) rfl rfl ?_
              refine JL_loadE ty101 rfl (Reads.view List.mem_cons_self) (u32s_get (by omega)) ?_
              exact JL_nil (JE_stepV rfl ss0))), OblS_V (fun vals ex ψ => (by
              refine JL_normQ ⟨83, [(55, _), (56, _), (57, _), (58, _), (59, _), (60, _), (61, _), (62, _), (63, _), (64, _), (65, _), (66, _), (67, _), (68, _)], _⟩ (_ :: _ :: _ :: _ :: ψ) rfl rfl ?_
              refine JL_convInt us101 it87 rfl (IntWalk.u64_in _ (by omega)) ?_
              exact JL_nil (JE_stepV rfl ss0))), OblS_V (fun vals ex ψ => (by
              refine JL_normQ ⟨83, [(55, _), (56, _), (57, _), (58, _), (59, _), (60, _), (61, _), (62, _), (63, _), (64, _), (65, _), (66, _), (67, _), (68, _)], _⟩ (_ :: _ :: _ :: _ :: ψ) rfl rfl ?_
              refine JL_mul_to rfl rfl (IntWalk.u64_in _ (by rw [← Int.natCast_mul]; omega)) ?_
              rw [show ((((limbsOf x1).getD i 0 : Nat) : Int) * (((limbsOf x2).getD k 0 : Nat) : Int) : Int) = ((((limbsOf x1).getD i 0 * (limbsOf x2).getD k 0) : Nat) : Int) from (Int.natCast_mul _ _).symm]
              exact JL_nil (JE_stepV rfl ss0))), trivial⟩ (by kernel_rfl) (fun vals bs => ?_)
          refine JL_normL [_, _] ⟨83, [(55, _), (56, _), (57, _), (58, _), (59, _), (60, _), (61, _), (62, _), (63, _), (64, _), (65, _), (66, _), (67, _), (68, _)], _⟩ [box _ _ [_], box _ _ [_], box _ _ [_], osl _ _ _ _ _ _] [_, _, _, _] rfl rfl rfl rfl ?_
          refine JL_add_to rfl rfl (IntWalk.u64_in _ (by omega)) ?_
          refine JL_assign rfl ?_
          refine JL_nil_up 83 [box _ _ [_], box _ _ [_], box _ _ [_], osl _ _ _ _ _ _] [_, _, _, _] rfl rfl (by simp only [nrmF]; rfl) rfl rfl ?_
          refine JE_midS (o2.getD (i + k) 0 + c + ((limbsOf x1).getD i 0 * (limbsOf x2).getD k 0)) (by kernel_rfl) ?_ (by kernel_rfl) ?_
          · exact rfl
          · exact subset_app subset_nil ss0
        · have h54 := of_decide_eq_false hb
          refine JC_skip ?_
          refine JE_midS (o2.getD (i + k) 0 + c) (by kernel_rfl) ?_ (by kernel_rfl) ?_
          · show _ = _ + _; rw [getD_of_ge (limbsOf x2) k (by omega)]; omega
          · exact subset_app subset_nil ss0
      intro u t ht
      refine JC_norm ⟨83, [], [_, _, _, _, _, _, _, _, _, _, _, _, _, _, _, _, _, _, _, _, _, _, _, _, _, _, _, _, _, _, _, _, _, _, _, _, _, _, _, _, _, _, _, _, _, _, _, _, _, _, _, _, _, _, _, _, _, _, _, _, _, _, _, _, _, _, _, _, _, _, _, _, _, _, _, _, _, _, _, _, _, _, _]⟩ [box _ _ [_], box _ _ [_], box _ _ [_], osl _ _ _ _ _ _] [_, _, _, _] rfl rfl rfl ?_
      refine JC_seq ?_
      refine JC_region ?_
      refine JL_move rfl ?_
      refine JL_move rfl ?_
      refine JL_move rfl ?_
      refine JL_add_to rfl rfl (IntWalk.i64_in _ (by omega)) ?_
      refine JL_move rfl ?_
      refine JL_rem_to rfl rfl (by omega) (IntWalk.rem_in _ _ (by omega)) ?_
      refine JL_convInt us87 it101 rfl (IntWalk.u32_in _ (by omega)) ?_
      refine JL_idx (i + k) sl31 rfl rfl rfl (by omega) (Reads.own 3 rfl) (by first | (rw [u32s_length]; omega) | (rw [i64s_length]; omega)) ?_
      refine JL_storeU 3 (t % 1000000000) ty101 rfl rfl rfl (by omega) (by omega) ?_
      refine JL_done_up 83 [box _ _ [_], box _ _ [_], box _ _ [_], osl _ _ _ _ _ _] [_, _, _, _] rfl rfl (by simp only [nrmF]; rfl) rfl rfl ?_
      refine JC_region ?_
      refine JL_move rfl ?_
      refine JL_quo_to rfl rfl (by omega) (IntWalk.u64_quo _ _ (by omega)) ?_
      refine JL_assign rfl ?_
      refine JL_nil_up 83 [box _ _ [_], box _ _ [_], box _ _ [_], osl _ _ _ _ _ _] [_, _, _, _] rfl rfl (by simp only [nrmF]; rfl) rfl rfl ?_
      refine JE_block_normal ?_
      refine JE_then ?_
      refine JC_region ?_
      refine JL_move rfl ?_
      refine JL_add_to rfl rfl (IntWalk.i64_in _ (by omega)) ?_
      refine JL_assign rfl ?_
      refine JL_nil_up 83 [box _ _ [_], box _ _ [_], box _ _ [_], osl _ _ _ _ _ _] [_, _, _, _] rfl rfl (by simp only [nrmF]; rfl) rfl rfl ?_
      refine JE_nextS (k + 1, o2.set (i + k) (t % 1000000000), t / 1000000000) (by kernel_rfl) ?_ ?_ (by kernel_rfl) ?_
      · exact ⟨by omega, by rw [List.length_set]; omega, hd2.set _ _ (Nat.mod_lt _ (by decide)), Nat.div_lt_of_lt_mul (by omega), times_step (by omega) hv2 (by omega) rfl, fun l hl => by rw [Nat9.getD_set_ne o2 (i + k) l _ (by omega)]; exact hz2 l hl, fun h => by rw [Nat9.getD_set_ne o2 (i + k) _ _ (by omega)]; exact hz3 (by omega)⟩
      · first | omega | (dsimp only; omega)
      · exact subset_app subset_nil ss0
    · refine JL_move rfl ?_
      refine JL_guard_yes rfl rfl ?_
      refine JL_move rfl ?_
      refine JL_guard_yes rfl rfl ?_
      refine JL_gtr rfl rfl ?_
      refine JL_split (fun h37 => ?_) (fun h37 => ?_)
      · refine JL_pick_f rfl rfl ?_
        refine JL_done_up 83 [box _ _ [_], box _ _ [_], box _ _ [_], osl _ _ _ _ _ _] [_, _, _, _] rfl rfl (by simp only [nrmF]; rfl) rfl rfl ?_
        refine JC_true rfl ?_
        refine JC_skip ?_
        refine JE_then ?_
        refine JC_seq ?_
        refine JC_block ?_
        refine JC_seq ?_
        refine JC_region ?_
        refine JL_move rfl ?_
        refine JL_move rfl ?_
        refine JL_move rfl ?_
        refine JL_add_to rfl rfl (IntWalk.i64_in _ (by omega)) ?_
        refine JL_idx (i + k) sl31 rfl rfl rfl (by omega) (Reads.own 3 rfl) (by first | (rw [u32s_length]; omega) | (rw [i64s_length]; omega)) ?_
        refine JL_loadE ty101 rfl (Reads.own 3 rfl) (u32s_get (by omega)) ?_
        refine JL_convInt us101 it87 rfl (IntWalk.u64_in _ (by omega)) ?_
        refine JL_move rfl ?_
        refine JL_add_to rfl rfl (IntWalk.u64_in _ (by omega)) ?_
        refine JL_assign rfl ?_
        refine JL_done_up 83 [box _ _ [_], box _ _ [_], box _ _ [_], osl _ _ _ _ _ _] [_, _, _, _] rfl rfl (by simp only [nrmF]; rfl) rfl rfl ?_
        refine JC_seq ?_
        refine JC_seq ?_
        refine JC_region ?_
        refine JL_move rfl ?_
        refine JL_fieldAddr fo33_0 rfl ?_
        refine JL_load 1 ty31 rfl rfl rfl ?_
        refine JL_len sl31 rfl ?_
        refine JL_lss rfl rfl ?_
        refine JL_done_up 83 [box _ _ [_], box _ _ [_], box _ _ [_], osl _ _ _ _ _ _] [_, _, _, _] rfl rfl (by simp only [nrmF]; rfl) rfl rfl ?_
        refine JC_cutT ((Nat)) (fun (t : Nat) => t = o2.getD (i + k) 0 + c + ((limbsOf x1).getD i 0 * (limbsOf x2).getD k 0)) (fun u (t : Nat) => [none, none, none, none, none, none, none, none, none, some (.int .u64 (t : Nat)), none, none, none, none, none, none, none, none, none, none, none, none, none, none, none, none, none, none, none, none, none, none, none, none, none, none, none, none, none, none, none, none, none, none, none, none, none, none, none, none, none, none, none, none, none, some (u 55), some (u 56), some (u 57), some (u 58), some (u 59), some (u 60), some (u 61), some (u 62), some (u 63), some (u 64), some (u 65), some (u 66), some (u 67), some (u 68), some (u 69), none, none, none, none, none, none, none, none, none, none, none, none, none]) (fun (t : Nat) => [none, none, none, none]) (fun (t : Nat) => []) ?_ ?_
        · refine JC_cond rfl (fun hb => ?_) (fun hb => ?_)
          · have h54 := of_decide_eq_true hb
            refine JC_drawT mixed 14 [spV 55 [] _, spV 56 [] _, spV 57 [1] _, spV 58 [] _, spV 59 [2, 3] _, spV 60 [4] _, spV 61 [5] _, spV 62 [] _, spV 63 [7] _, spV 64 [] _, spV 65 [8, 9] _, spV 66 [10] _, spV 67 [11] _, spV 68 [6, 12] _] ⟨OblS_V (fun vals ex ψ => (by
                refine JL_normQ ⟨83, [(55, _), (56, _), (57, _), (58, _), (59, _), (60, _), (61, _), (62, _), (63, _), (64, _), (65, _), (66, _), (67, _), (68, _)], _⟩ (_ :: _ :: _ :: _ :: ψ) rfl rfl ?_
                refine JL_move rfl ?_
                exact JL_nil (JE_stepV rfl ss0))), OblS_V (fun vals ex ψ => (by
                refine JL_normQ ⟨83, [(55, _), (56, _), (57, _), (58, _), (59, _), (60, _), (61, _), (62, _), (63, _), (64, _), (65, _), (66, _), (67, _), (68, _)], _⟩ (_ :: _ :: _ :: _ :: ψ) rfl rfl ?_
                refine JL_fieldAddr fo33_0 rfl ?_
                exact JL_nil (JE_stepV rfl ss0))), OblS_V (fun vals ex ψ => (by
                refine JL_normQ ⟨83, [(55, _), (56, _), (57, _), (58, _), (59, _), (60, _), (61, _), (62, _), (63, _), (64, _), (65, _), (66, _), (67, _), (68, _)], _⟩ (_ :: _ :: _ :: _ :: ψ) rfl rfl ?_
                refine JL_load 0 ty31 rfl rfl rfl ?_
                exact JL_nil (JE_stepV rfl ss0))), OblS_V (fun vals ex ψ => (by
                refine JL_normQ ⟨83, [(55, _), (56, _), (57, _), (58, _), (59, _), (60, _), (61, _), (62, _), (63, _), (64, _), (65, _), (66, _), (67, _), (68, _)], _⟩ (_ :: _ :: _ :: _ :: ψ) rfl rfl ?_
                refine JL_move rfl ?_
                exact JL_nil (JE_stepV rfl ss0))), OblS_V (fun vals ex ψ => (by
                refine JL_normQ ⟨83, [(55, _), (56, _), (57, _), (58, _), (59, _), (60, _), (61, _), (62, _), (63, _), (64, _), (65, _), (66, _), (67, _), (68, _)], _⟩ (_ :: _ :: _ :: _ :: ψ) rfl rfl ?_
                refine JL_idx i sl31 rfl rfl rfl (by omega) (Reads.view (List.mem_cons_of_mem _ List.mem_cons_self)) (by first | (rw [u32s_length]; omega) | (rw [i64s_length]; omega)) ?_
                exact JL_nil (JE_stepV rfl ss0))), OblS_V (fun vals ex ψ => (by
                refine JL_normQ ⟨83, [(55, _), (56, _), (57, _), (58, _), (59, _), (60, _), (61, _), (62, _), (63, _), (64, _), (65, _), (66, _), (67, _), (68, _)], _⟩ (_ :: _ :: _ :: _ :: ψ) rfl rfl ?_
                refine JL_loadE ty101 rfl (Reads.view (List.mem_cons_of_mem _ List.mem_cons_self)) (u32s_get (by omega)) ?_
                exact JL_nil (JE_stepV rfl ss0))), OblS_V (fun vals ex ψ => (by
                refine JL_normQ ⟨83, [(55, _), (56, _), (57, _), (58, _), (59, _), (60, _), (61, _), (62, _), (63, _), (64, _), (65, _), (66, _), (67, _), (68, _)], _⟩ (_ :: _ :: _ :: _ :: ψ) rfl rfl ?_
                refine JL_convInt us101 it87 rfl (IntWalk.u64_in _ (by omega)) ?_
                exact JL_nil (JE_stepV rfl ss0))), OblS_V (fun vals ex ψ => (by
                refine JL_normQ ⟨83, [(55, _), (56, _), (57, _), (58, _), (59, _), (60, _), (61, _), (62, _), (63, _), (64, _), (65, _), (66, _), (67, _), (68, _)], _⟩ (_ :: _ :: _ :: _ :: ψ) rfl rfl ?_
                refine JL_fieldAddr fo33_0 rfl ?_
                exact JL_nil (JE_stepV rfl ss0))), OblS_V (fun vals ex ψ => (by
                refine JL_normQ ⟨83, [(55, _), (56, _), (57, _), (58, _), (59, _), (60, _), (61, _), (62, _), (63, _), (64, _), (65, _), (66, _), (67, _), (68, _)], _⟩ (_ :: _ :: _ :: _ :: ψ) rfl rfl ?_
                refine JL_load 1 ty31 rfl rfl rfl ?_
                exact JL_nil (JE_stepV rfl ss0))), OblS_V (fun vals ex ψ => (by
                refine JL_normQ ⟨83, [(55, _), (56, _), (57, _), (58, _), (59, _), (60, _), (61, _), (62, _), (63, _), (64, _), (65, _), (66, _), (67, _), (68, _)], _⟩ (_ :: _ :: _ :: _ :: ψ) rfl rfl ?_
                refine JL_move rfl ?_
                exact JL_nil (JE_stepV rfl ss0))), OblS_V (fun vals ex ψ => (by
                refine JL_normQ ⟨83, [(55, _), (56, _), (57, _), (58, _), (59, _), (60, _), (61, _), (62, _), (63, _), (64, _), (65, _), (66, _), (67, _), (68, _)], _⟩ (_ :: _ :: _ :: _ :: ψ) rfl rfl ?_
                refine JL_idx k sl31 rfl rfl rfl (by omega) (Reads.view List.mem_cons_self) (by first | (rw [u32s_length]; omega) | (rw [i64s_length]; omega)) ?_
                exact JL_nil (JE_stepV rfl ss0))), OblS_V (fun vals ex ψ => (by
                refine JL_normQ ⟨83, [(55, _), (56, _), (57, _), (58, _), (59, _), (60, _), (61, _), (62, _), (63, _), (64, _), (65, _), (66, _), (67, _), (68, _)], _⟩ (_ :: _ :: _ :: _ :: ψ) rfl rfl ?_
                refine JL_loadE ty101 rfl (Reads.view List.mem_cons_self) (u32s_get (by omega)) ?_
                exact JL_nil (JE_stepV rfl ss0))), OblS_V (fun vals ex ψ => (by
                refine JL_normQ ⟨83, [(55, _), (56, _), (57, _), (58, _), (59, _), (60, _), (61, _), (62, _), (63, _), (64, _), (65, _), (66, _), (67, _), (68, _)], _⟩ (_ :: _ :: _ :: _ :: ψ) rfl rfl ?_
                refine JL_convInt us101 it87 rfl (IntWalk.u64_in _ (by omega)) ?_
                exact JL_nil (JE_stepV rfl ss0))), OblS_V (fun vals ex ψ => (by
                refine JL_normQ ⟨83, [(55, _), (56, _), (57, _), (58, _), (59, _), (60, _), (61, _), (62, _), (63, _), (64, _), (65, _), (66, _), (67, _), (68, _)], _⟩ (_ :: _ :: _ :: _ :: ψ) rfl rfl ?_
                refine JL_mul_to rfl rfl (IntWalk.u64_in _ (by rw [← Int.natCast_mul]; omega)) ?_
                rw [show ((((limbsOf x1).getD i 0 : Nat) : Int) * (((limbsOf x2).getD k 0 : Nat) : Int) : Int) = ((((limbsOf x1).getD i 0 * (limbsOf x2).getD k 0) : Nat) : Int) from (Int.natCast_mul _ _).symm]
                exact JL_nil (JE_stepV rfl ss0))), trivial⟩ (by kernel_rfl) (fun vals bs => ?_)
            refine JL_normL [_, _] ⟨83, [(55, _), (56, _), (57, _), (58, _), (59, _), (60, _), (61, _), (62, _), (63, _), (64, _), (65, _), (66, _), (67, _), (68, _)], _⟩ [box _ _ [_], box _ _ [_], box _ _ [_], osl _ _ _ _ _ _] [_, _, _, _] rfl rfl rfl rfl ?_
            refine JL_add_to rfl rfl (IntWalk.u64_in _ (by omega)) ?_
            refine JL_assign rfl ?_
            refine JL_nil_up 83 [box _ _ [_], box _ _ [_], box _ _ [_], osl _ _ _ _ _ _] [_, _, _, _] rfl rfl (by simp only [nrmF]; rfl) rfl rfl ?_
            refine JE_midS (o2.getD (i + k) 0 + c + ((limbsOf x1).getD i 0 * (limbsOf x2).getD k 0)) (by kernel_rfl) ?_ (by kernel_rfl) ?_
            · exact rfl
            · exact subset_app subset_nil ss0
          · have h54 := of_decide_eq_false hb
            refine JC_skip ?_
            refine JE_midS (o2.getD (i + k) 0 + c) (by kernel_rfl) ?_ (by kernel_rfl) ?_
            · show _ = _ + _; rw [getD_of_ge (limbsOf x2) k (by omega)]; omega
            · exact subset_app subset_nil ss0
        intro u t ht
        refine JC_norm ⟨83, [], [_, _, _, _, _, _, _, _, _, _, _, _, _, _, _, _, _, _, _, _, _, _, _, _, _, _, _, _, _, _, _, _, _, _, _, _, _, _, _, _, _, _, _, _, _, _, _, _, _, _, _, _, _, _, _, _, _, _, _, _, _, _, _, _, _, _, _, _, _, _, _, _, _, _, _, _, _, _, _, _, _, _, _]⟩ [box _ _ [_], box _ _ [_], box _ _ [_], osl _ _ _ _ _ _] [_, _, _, _] rfl rfl rfl ?_
        refine JC_seq ?_
        refine JC_region ?_
        refine JL_move rfl ?_
        refine JL_move rfl ?_
        refine JL_move rfl ?_
        refine JL_add_to rfl rfl (IntWalk.i64_in _ (by omega)) ?_
        refine JL_move rfl ?_
        refine JL_rem_to rfl rfl (by omega) (IntWalk.rem_in _ _ (by omega)) ?_
        refine JL_convInt us87 it101 rfl (IntWalk.u32_in _ (by omega)) ?_
        refine JL_idx (i + k) sl31 rfl rfl rfl (by omega) (Reads.own 3 rfl) (by first | (rw [u32s_length]; omega) | (rw [i64s_length]; omega)) ?_
        refine JL_storeU 3 (t % 1000000000) ty101 rfl rfl rfl (by omega) (by omega) ?_
        refine JL_done_up 83 [box _ _ [_], box _ _ [_], box _ _ [_], osl _ _ _ _ _ _] [_, _, _, _] rfl rfl (by simp only [nrmF]; rfl) rfl rfl ?_
        refine JC_region ?_
        refine JL_move rfl ?_
        refine JL_quo_to rfl rfl (by omega) (IntWalk.u64_quo _ _ (by omega)) ?_
        refine JL_assign rfl ?_
        refine JL_nil_up 83 [box _ _ [_], box _ _ [_], box _ _ [_], osl _ _ _ _ _ _] [_, _, _, _] rfl rfl (by simp only [nrmF]; rfl) rfl rfl ?_
        refine JE_block_normal ?_
        refine JE_then ?_
        refine JC_region ?_
        refine JL_move rfl ?_
        refine JL_add_to rfl rfl (IntWalk.i64_in _ (by omega)) ?_
        refine JL_assign rfl ?_
        refine JL_nil_up 83 [box _ _ [_], box _ _ [_], box _ _ [_], osl _ _ _ _ _ _] [_, _, _, _] rfl rfl (by simp only [nrmF]; rfl) rfl rfl ?_
        refine JE_nextS (k + 1, o2.set (i + k) (t % 1000000000), t / 1000000000) (by kernel_rfl) ?_ ?_ (by kernel_rfl) ?_
        · exact ⟨by omega, by rw [List.length_set]; omega, hd2.set _ _ (Nat.mod_lt _ (by decide)), Nat.div_lt_of_lt_mul (by omega), times_step (by omega) hv2 (by omega) rfl, fun l hl => by rw [Nat9.getD_set_ne o2 (i + k) l _ (by omega)]; exact hz2 l hl, fun h => by rw [Nat9.getD_set_ne o2 (i + k) _ _ (by omega)]; exact hz3 (by omega)⟩
        · first | omega | (dsimp only; omega)
        · exact subset_app subset_nil ss0
      · refine JL_pick_f rfl rfl ?_
        refine JL_done_up 83 [box _ _ [_], box _ _ [_], box _ _ [_], osl _ _ _ _ _ _] [_, _, _, _] rfl rfl (by simp only [nrmF]; rfl) rfl rfl ?_
        refine JC_false rfl ?_
        refine JC_exit ?_
        refine JE_then_exit ?_
        refine JE_nextS_exit ?_
        refine JE_block_exit ?_
        refine JE_block_normal ?_
        refine JE_then ?_
        refine JC_region ?_
        refine JL_move rfl ?_
        refine JL_add_to rfl rfl (IntWalk.i64_in _ (by omega)) ?_
        refine JL_assign rfl ?_
        refine JL_nil_up 83 [box _ _ [_], box _ _ [_], box _ _ [_], osl _ _ _ _ _ _] [_, _, _, _] rfl rfl (by simp only [nrmF]; rfl) rfl rfl ?_
        refine JE_nextS (i + 1, o2) (by kernel_rfl) ?_ ?_ (by kernel_rfl) ?_
        · exact ⟨by omega, ho2, hd2, by
              obtain rfl : c = 0 := by omega
              rw [Nat.mul_zero, Nat.add_zero, List.take_of_length_le (l := (limbsOf x2)) (by omega)] at hv2
              rw [hv2, val_take_succ', Nat.add_mul, Nat.mul_assoc], fun l hl => hz2 l (by omega)⟩
        · first | omega | (dsimp only; omega)
        · exact subset_app subset_nil ss0
  · refine JL_done_up 83 [box _ _ [_], box _ _ [_], box _ _ [_], osl _ _ _ _ _ _] [_, _, _, _] rfl rfl (by simp only [nrmF]; rfl) rfl rfl ?_
    refine JC_false rfl ?_
    refine JC_exit ?_
    refine JE_then_exit ?_
    refine JE_nextS_exit ?_
    refine JE_block_exit ?_
    refine JE_then ?_
    refine JC_seq ?_
    refine JC_region ?_
    refine JL_move rfl ?_
    refine JL_build (cs := [_]) [(0, [_])] st33 ⟨⟨rfl, _, rfl, rfl⟩, rfl⟩ rfl ?_
    refine JL_callF' (Asks.cons (by first | exact holds_of_mem (by repeat (first | with_reducible exact mm0 | refine mmS ?_)) | (exact holds_of_own 3 rfl)) Asks.nil) (rnorm_con _ _ _ _ (x1 * x2) ⟨ho, U32.ofDig hd, by rw [hv, List.take_of_length_le (by omega), val_limbsOf, val_limbsOf], by omega⟩) rfl ca95 ⟨rfl, rfl⟩ ?_
    rintro _ _ ⟨ad82, cap82, rfl, hk82, hm82, rfl⟩
    refine JL_store (vs := [_]) 2 ty33 rfl rfl rfl (AllOne.cons rfl AllOne.nil) rfl (Nat.le_of_ble_eq_true rfl) ?_
    refine JL_done_up 83 [box _ _ [_], box _ _ [_], box _ _ [_], osl _ _ _ _ _ _] [_, _, _, _, _] rfl rfl (by simp only [nrmF]; rfl) rfl rfl ?_
    refine JC_ret ?_
    refine JE_ret (vs := [_]) [vCells ad82 (u32s (limbsOf (x1 * x2)))] Tryd.results96 ⟨RV.cell (vs := [_]) 2 ty33 rfl rfl ⟨rfl, trivial⟩, rfl⟩ ?_ ?_
    · exact ⟨ad82, cap82, rfl, hk82, hm82, rfl⟩
    · exact (all_cons (by repeat (first | with_reducible exact mm0 | refine mmS ?_)) all_nil)

set_option maxHeartbeats 2000000 in
set_option maxRecDepth 20000 in
theorem rdivmod_con (ad1 : Option Addr) (n1 c1 : Nat) (L1 : List Nat) (x1 : Nat) (g1 : NIn n1 L1 x1 100000100) (ad2 : Option Addr) (n2 c2 : Nat) (L2 : List Nat) (x2 : Nat) (g2 : NIn n2 L2 x2 100000100) (hpos : 0 < x2) :
    ConF Tryd.prog 79 [.agg #[.slice ad1 n1 c1], .agg #[.slice ad2 n2 c2]] [vCells ad1 (u32s L1), vCells ad2 (u32s L2)]
      (LN2E (x1 / x2) (x1 % x2) 0) := by
  have hs1 := g1.sz
  have hl1 := g1.le
  have hs2 := g2.sz
  have hl2 := g2.le
  have hlp := limbsOf_len_pos hpos
  refine ConF_of Tryd.func79 rfl 178 _ rfl rfl ?_
  intro w0
  refine JC_norm ⟨178, [], [_, _, _, _, _, _, _, _, _, _, _, _, _, _, _, _, _, _, _, _, _, _, _, _, _, _, _, _, _, _, _, _, _, _, _, _, _, _, _, _, _, _, _, _, _, _, _, _, _, _, _, _, _, _, _, _, _, _, _, _, _, _, _, _, _, _, _, _, _, _, _, _, _, _, _, _, _, _, _, _, _, _, _, _, _, _, _, _, _, _, _, _, _, _, _, _, _, _, _, _, _, _, _, _, _, _, _, _, _, _, _, _, _, _, _, _, _, _, _, _, _, _, _, _, _, _, _, _, _, _, _, _, _, _, _, _, _, _, _, _, _, _, _, _, _, _, _, _, _, _, _, _, _, _, _, _, _, _, _, _, _, _, _, _, _, _, _, _, _, _, _, _, _, _, _, _, _, _]⟩ [] [_, _] rfl rfl rfl ?_
  refine JC_seq ?_
  refine JC_region ?_
  refine JL_box rfl rfl (fun b2 => ?_)
  refine JL_box rfl rfl (fun b3 => ?_)
  refine JL_alloc z33 (fun b4 => ?_)
  refine JL_alloc z33 (fun b5 => ?_)
  refine JL_assign rfl ?_
  refine JL_done_up 178 [box _ _ [_], box _ _ [_], box _ _ [_], box _ _ [_]] [_, _] rfl rfl (by simp only [nrmF]; rfl) rfl rfl ?_
  refine JC_seq ?_
  refine JC_region ?_
  refine JL_loadA (vs := [_]) 0 ty33 rfl rfl ⟨rfl, trivial⟩ ?_
  refine JL_callF' (Asks.cons (holds_of_mem (by repeat (first | with_reducible exact mm0 | refine mmS ?_))) Asks.nil) (rnorm_con _ _ _ _ _ (g1.mono (by omega))) rfl ca95 ⟨rfl, rfl⟩ ?_
  rintro _ _ ⟨ad21, cap21, rfl, hk21, hm21, rfl⟩
  refine JL_store (vs := [_]) 0 ty33 rfl rfl rfl (AllOne.cons rfl AllOne.nil) rfl (Nat.le_of_ble_eq_true rfl) ?_
  refine JL_done_up 178 [box _ _ [_], box _ _ [_], box _ _ [_], box _ _ [_]] [_, _, _] rfl rfl (by simp only [nrmF]; rfl) rfl rfl ?_
  refine JC_seq ?_
  refine JC_region ?_
  refine JL_loadA (vs := [_]) 1 ty33 rfl rfl ⟨rfl, trivial⟩ ?_
  refine JL_callF' (Asks.cons (holds_of_mem (by repeat (first | with_reducible exact mm0 | refine mmS ?_))) Asks.nil) (rnorm_con _ _ _ _ _ (g2.mono (by omega))) rfl ca95 ⟨rfl, rfl⟩ ?_
  rintro _ _ ⟨ad23, cap23, rfl, hk23, hm23, rfl⟩
  refine JL_store (vs := [_]) 1 ty33 rfl rfl rfl (AllOne.cons rfl AllOne.nil) rfl (Nat.le_of_ble_eq_true rfl) ?_
  refine JL_done_up 178 [box _ _ [_], box _ _ [_], box _ _ [_], box _ _ [_]] [_, _, _, _] rfl rfl (by simp only [nrmF]; rfl) rfl rfl ?_
  refine JC_seq ?_
  refine JC_region ?_
  refine JL_fieldAddr fo33_0 rfl ?_
  refine JL_load 1 ty31 rfl rfl rfl ?_
  refine JL_len sl31 rfl ?_
  refine JL_assign rfl ?_
  refine JL_done_up 178 [box _ _ [_], box _ _ [_], box _ _ [_], box _ _ [_]] [_, _, _, _] rfl rfl (by simp only [nrmF]; rfl) rfl rfl ?_
  refine JC_seq ?_
  refine JC_seq ?_
  refine JC_region ?_
  refine JL_move rfl ?_
  refine JL_eql rfl rfl ?_
  refine JL_split (fun h28 => ?_) (fun h28 => ?_)
  · exact absurd h28 (by omega)
  · refine JL_done_up 178 [box _ _ [_], box _ _ [_], box _ _ [_], box _ _ [_]] [_, _, _, _] rfl rfl (by simp only [nrmF]; rfl) rfl rfl ?_
    refine JC_false rfl ?_
    refine JC_skip ?_
    refine JE_then ?_
    refine JC_seq ?_
    refine JC_seq ?_
    refine JC_region ?_
    refine JL_loadA (vs := [_]) 0 ty33 rfl rfl ⟨rfl, trivial⟩ ?_
    refine JL_loadA (vs := [_]) 1 ty33 rfl rfl ⟨rfl, trivial⟩ ?_
    refine JL_callF' (Asks.cons (holds_of_mem (by repeat (first | with_reducible exact mm0 | refine mmS ?_))) (Asks.cons (holds_of_mem (by repeat (first | with_reducible exact mm0 | refine mmS ?_))) Asks.nil)) (rcmp_con _ _ _ _ _ (NIn.of (by omega)) _ _ _ _ _ (NIn.of (by omega))) rfl ca94 ⟨rfl, rfl, rfl⟩ ?_
    rintro _ _ ⟨rfl, rfl⟩
    refine JL_lss rfl rfl ?_
    refine JL_split (fun h34 => ?_) (fun h34 => ?_)
    · refine JL_done_up 178 [box _ _ [_], box _ _ [_], box _ _ [_], box _ _ [_]] [_, _, _, _] rfl rfl (by simp only [nrmF]; rfl) rfl rfl ?_
      refine JC_true rfl ?_
      refine JC_seq ?_
      refine JC_drawA mixed 5 rfl ?_
      refine JA_step [0, 1] (by kernel_rfl) (by simp) ⟨⟨_, rfl, ?_⟩, ⟨_, rfl, ?_⟩, trivial⟩
      · refine JL_build (cs := [_]) [] st33 rfl rfl ?_
        refine JL_nil_up 178 [box _ _ [_], box _ _ [_], box _ _ [_], box _ _ [_]] [_, _, _, _] rfl rfl (by simp only [nrmF]; rfl) rfl rfl ?_
        refine JE_nextA ?_
        refine JA_step [1, 2] (by kernel_rfl) (by simp) ⟨⟨_, rfl, ?_⟩, ⟨_, rfl, ?_⟩, trivial⟩
        · refine JL_loadA (vs := [_]) 0 ty33 rfl rfl ⟨rfl, trivial⟩ ?_
          refine JL_nil_up 178 [box _ _ [_], box _ _ [_], box _ _ [_], box _ _ [_]] [_, _, _, _] rfl rfl (by simp only [nrmF]; rfl) rfl rfl ?_
          refine JE_nextA ?_
          refine JA_step [2] (by kernel_rfl) (by simp) ⟨⟨_, rfl, ?_⟩, trivial⟩
          refine JL_store (vs := [_]) 2 ty33 rfl rfl rfl (AllOne.cons rfl AllOne.nil) rfl (Nat.le_of_ble_eq_true rfl) ?_
          refine JL_nil_up 178 [box _ _ [_], box _ _ [_], box _ _ [_], box _ _ [_]] [_, _, _, _] rfl rfl (by simp only [nrmF]; rfl) rfl rfl ?_
          refine JE_nextA ?_
          refine JA_step [3] (by kernel_rfl) (by simp) ⟨⟨_, rfl, ?_⟩, trivial⟩
          refine JL_store (vs := [_]) 3 ty33 rfl rfl rfl (AllOne.cons rfl AllOne.nil) rfl (Nat.le_of_ble_eq_true rfl) ?_
          refine JL_nil_up 178 [box _ _ [_], box _ _ [_], box _ _ [_], box _ _ [_]] [_, _, _, _] rfl rfl (by simp only [nrmF]; rfl) rfl rfl ?_
          refine JE_nextA ?_
          refine JA_step [4] (by kernel_rfl) (by simp) ⟨⟨_, rfl, ?_⟩, trivial⟩
          refine JL_assign rfl ?_
          refine JL_nil_up 178 [box _ _ [_], box _ _ [_], box _ _ [_], box _ _ [_]] [_, _, _, _] rfl rfl (by simp only [nrmF]; rfl) rfl rfl ?_
          refine JE_nextA ?_
          refine JA_end (by kernel_rfl) ?_
          refine JE_then ?_
          refine JC_ret ?_
          refine JE_then_ret ?_
          have hlt : x1 < x2 := cmpN_neg.1 h34
          refine JE_nilView ?_
          refine JE_ret (vs := [_, _, _]) [vCells none (u32s []), vCells ad21 (u32s (limbsOf (x1)))] Tryd.results79 ⟨RV.cell (vs := [_]) 2 ty33 rfl rfl ⟨rfl, trivial⟩, RV.cell (vs := [_]) 3 ty33 rfl rfl ⟨rfl, trivial⟩, rfl, rfl⟩ ?_ ?_
          · exact ⟨none, 0, ad21, cap21, by rw [Nat.div_eq_of_lt hlt, Nat.mod_eq_of_lt hlt, limbsOf_zero]; rfl, by rw [Nat.div_eq_of_lt hlt, limbsOf_zero]; exact Nat.le_refl _, by omega, by rw [Nat.mod_eq_of_lt hlt]; exact hk21, hm21, by rw [Nat.div_eq_of_lt hlt, Nat.mod_eq_of_lt hlt, limbsOf_zero]⟩
          · exact (all_cons (by repeat (first | with_reducible exact mm0 | refine mmS ?_)) (all_cons (by repeat (first | with_reducible exact mm0 | refine mmS ?_)) all_nil))
        · refine JL_store (vs := [_]) 2 ty33 rfl rfl rfl (AllOne.cons rfl AllOne.nil) rfl (Nat.le_of_ble_eq_true rfl) ?_
          refine JL_nil_up 178 [box _ _ [_], box _ _ [_], box _ _ [_], box _ _ [_]] [_, _, _, _] rfl rfl (by simp only [nrmF]; rfl) rfl rfl ?_
          refine JE_nextA ?_
          refine JA_step [1] (by kernel_rfl) (by simp) ⟨⟨_, rfl, ?_⟩, trivial⟩
          refine JL_loadA (vs := [_]) 0 ty33 rfl rfl ⟨rfl, trivial⟩ ?_
          refine JL_nil_up 178 [box _ _ [_], box _ _ [_], box _ _ [_], box _ _ [_]] [_, _, _, _] rfl rfl (by simp only [nrmF]; rfl) rfl rfl ?_
          refine JE_nextA ?_
          refine JA_step [3] (by kernel_rfl) (by simp) ⟨⟨_, rfl, ?_⟩, trivial⟩
          refine JL_store (vs := [_]) 3 ty33 rfl rfl rfl (AllOne.cons rfl AllOne.nil) rfl (Nat.le_of_ble_eq_true rfl) ?_
          refine JL_nil_up 178 [box _ _ [_], box _ _ [_], box _ _ [_], box _ _ [_]] [_, _, _, _] rfl rfl (by simp only [nrmF]; rfl) rfl rfl ?_
          refine JE_nextA ?_
          refine JA_step [4] (by kernel_rfl) (by simp) ⟨⟨_, rfl, ?_⟩, trivial⟩
          refine JL_assign rfl ?_
          refine JL_nil_up 178 [box _ _ [_], box _ _ [_], box _ _ [_], box _ _ [_]] [_, _, _, _] rfl rfl (by simp only [nrmF]; rfl) rfl rfl ?_
          refine JE_nextA ?_
          refine JA_end (by kernel_rfl) ?_
          refine JE_then ?_
          refine JC_ret ?_
          refine JE_then_ret ?_
          have hlt : x1 < x2 := cmpN_neg.1 h34
          refine JE_nilView ?_
          refine JE_ret (vs := [_, _, _]) [vCells none (u32s []), vCells ad21 (u32s (limbsOf (x1)))] Tryd.results79 ⟨RV.cell (vs := [_]) 2 ty33 rfl rfl ⟨rfl, trivial⟩, RV.cell (vs := [_]) 3 ty33 rfl rfl ⟨rfl, trivial⟩, rfl, rfl⟩ ?_ ?_
          · exact ⟨none, 0, ad21, cap21, by rw [Nat.div_eq_of_lt hlt, Nat.mod_eq_of_lt hlt, limbsOf_zero]; rfl, by rw [Nat.div_eq_of_lt hlt, limbsOf_zero]; exact Nat.le_refl _, by omega, by rw [Nat.mod_eq_of_lt hlt]; exact hk21, hm21, by rw [Nat.div_eq_of_lt hlt, Nat.mod_eq_of_lt hlt, limbsOf_zero]⟩
          · exact (all_cons (by repeat (first | with_reducible exact mm0 | refine mmS ?_)) (all_cons (by repeat (first | with_reducible exact mm0 | refine mmS ?_)) all_nil))
      · refine JL_loadA (vs := [_]) 0 ty33 rfl rfl ⟨rfl, trivial⟩ ?_
        refine JL_nil_up 178 [box _ _ [_], box _ _ [_], box _ _ [_], box _ _ [_]] [_, _, _, _] rfl rfl (by simp only [nrmF]; rfl) rfl rfl ?_
        refine JE_nextA ?_
        refine JA_step [0] (by kernel_rfl) (by simp) ⟨⟨_, rfl, ?_⟩, trivial⟩
        refine JL_build (cs := [_]) [] st33 rfl rfl ?_
        refine JL_nil_up 178 [box _ _ [_], box _ _ [_], box _ _ [_], box _ _ [_]] [_, _, _, _] rfl rfl (by simp only [nrmF]; rfl) rfl rfl ?_
        refine JE_nextA ?_
        refine JA_step [2] (by kernel_rfl) (by simp) ⟨⟨_, rfl, ?_⟩, trivial⟩
        refine JL_store (vs := [_]) 2 ty33 rfl rfl rfl (AllOne.cons rfl AllOne.nil) rfl (Nat.le_of_ble_eq_true rfl) ?_
        refine JL_nil_up 178 [box _ _ [_], box _ _ [_], box _ _ [_], box _ _ [_]] [_, _, _, _] rfl rfl (by simp only [nrmF]; rfl) rfl rfl ?_
        refine JE_nextA ?_
        refine JA_step [3] (by kernel_rfl) (by simp) ⟨⟨_, rfl, ?_⟩, trivial⟩
        refine JL_store (vs := [_]) 3 ty33 rfl rfl rfl (AllOne.cons rfl AllOne.nil) rfl (Nat.le_of_ble_eq_true rfl) ?_
        refine JL_nil_up 178 [box _ _ [_], box _ _ [_], box _ _ [_], box _ _ [_]] [_, _, _, _] rfl rfl (by simp only [nrmF]; rfl) rfl rfl ?_
        refine JE_nextA ?_
        refine JA_step [4] (by kernel_rfl) (by simp) ⟨⟨_, rfl, ?_⟩, trivial⟩
        refine JL_assign rfl ?_
        refine JL_nil_up 178 [box _ _ [_], box _ _ [_], box _ _ [_], box _ _ [_]] [_, _, _, _] rfl rfl (by simp only [nrmF]; rfl) rfl rfl ?_
        refine JE_nextA ?_
        refine JA_end (by kernel_rfl) ?_
        refine JE_then ?_
        refine JC_ret ?_
        refine JE_then_ret ?_
        have hlt : x1 < x2 := cmpN_neg.1 h34
        refine JE_nilView ?_
        refine JE_ret (vs := [_, _, _]) [vCells none (u32s []), vCells ad21 (u32s (limbsOf (x1)))] Tryd.results79 ⟨RV.cell (vs := [_]) 2 ty33 rfl rfl ⟨rfl, trivial⟩, RV.cell (vs := [_]) 3 ty33 rfl rfl ⟨rfl, trivial⟩, rfl, rfl⟩ ?_ ?_
        · exact ⟨none, 0, ad21, cap21, by rw [Nat.div_eq_of_lt hlt, Nat.mod_eq_of_lt hlt, limbsOf_zero]; rfl, by rw [Nat.div_eq_of_lt hlt, limbsOf_zero]; exact Nat.le_refl _, by omega, by rw [Nat.mod_eq_of_lt hlt]; exact hk21, hm21, by rw [Nat.div_eq_of_lt hlt, Nat.mod_eq_of_lt hlt, limbsOf_zero]⟩
        · exact (all_cons (by repeat (first | with_reducible exact mm0 | refine mmS ?_)) (all_cons (by repeat (first | with_reducible exact mm0 | refine mmS ?_)) all_nil))
    · refine JL_done_up 178 [box _ _ [_], box _ _ [_], box _ _ [_], box _ _ [_]] [_, _, _, _] rfl rfl (by simp only [nrmF]; rfl) rfl rfl ?_
      refine JC_false rfl ?_
      refine JC_skip ?_
      refine JE_then ?_
      refine JC_seq ?_
      refine JC_region ?_
      refine JL_fieldAddr fo33_0 rfl ?_
      refine JL_load 1 ty31 rfl rfl rfl ?_
      refine JL_move rfl ?_
      refine JL_sub_to rfl rfl (IntWalk.i64_in _ (by omega)) ?_
      have hle : x2 ≤ x1 := by have := cmpN_neg (n := x1) (m := x2); omega
      have htop := limbsOf_top hpos
      have htop9 := (dig_limbsOf x2).getD ((limbsOf x2).length - 1)
      obtain ⟨tp, htp⟩ : ∃ tp, (limbsOf x2).getD ((limbsOf x2).length - 1) 0 = tp := ⟨_, rfl⟩
      rw [htp] at htop htop9
      refine JL_idx ((limbsOf x2).length - 1) sl31 rfl rfl (by omega) (by omega) (by first | exact Reads.view (by repeat (first | with_reducible exact mm0 | refine mmS ?_))) (by first | (rw [u32s_length]; omega) | (rw [i64s_length]; omega)) ?_
      refine JL_loadE ty101 rfl (by first | exact Reads.view (by repeat (first | with_reducible exact mm0 | refine mmS ?_))) (u32s_get (by omega)) ?_
      rw [htp]
      refine JL_convInt us101 it87 rfl (IntWalk.u64_in _ (by omega)) ?_
      refine JL_add_to rfl rfl (IntWalk.u64_in _ (by omega)) ?_
      rw [show (((tp : Nat) : Int) + 1 : Int) = ((tp + 1 : Nat) : Int) from rfl]
      obtain ⟨sc, hsc⟩ : ∃ sc, 1000000000 / (tp + 1) = sc := ⟨_, rfl⟩
      have hs0 : 0 < sc := by rw [← hsc]; exact (scale_pos (by omega)).1
      have hs9 : sc < 1000000000 := by rw [← hsc]; exact scale_dig htop
      refine JL_quo_to rfl rfl (by omega) (quo_nat_u64 1000000000 (tp + 1) (by decide)) ?_
      rw [hsc]
      obtain ⟨N, hN⟩ : ∃ N, x1 * sc = N := ⟨_, rfl⟩
      obtain ⟨V, hV⟩ : ∃ V, x2 * sc = V := ⟨_, rfl⟩
      have hscl : (limbsOf sc).length ≤ 1 := limbsOf_len_of_lt (by omega)
      have hNl := len_limbsOf_mul x1 sc
      rw [hN] at hNl
      have hVlen := scale_len hpos htp hsc hs0
      rw [hV] at hVlen
      have hV0 : 0 < V := by rw [← hV]; exact Nat.mul_pos hpos hs0
      have htV := (dig_limbsOf V).getD ((limbsOf x2).length - 1)
      have htV1 := top1' (x := V) (k := (limbsOf x2).length - 1) rfl (by omega)
      have htV0 := limbsOf_top hV0
      rw [hVlen] at htV0
      obtain ⟨vt, hvt⟩ : ∃ vt, (limbsOf V).getD ((limbsOf x2).length - 1) 0 = vt := ⟨_, rfl⟩
      rw [hvt] at htV htV0 htV1
      refine JL_assign rfl ?_
      refine JL_done_up 178 [box _ _ [_], box _ _ [_], box _ _ [_], box _ _ [_]] [_, _, _, _] rfl rfl (by simp only [nrmF]; rfl) rfl rfl ?_
      refine JC_seq ?_
      refine JC_drawT mixed 5 [spV 46 [] _, spV 47 [] _, spC 48 [1] _, spC 49 [0, 2] _, spA 9 33 [.slice none 0 0]] ⟨OblS_V (fun vals ex ψ => (by
          refine JL_normQ ⟨178, [(46, _), (47, _), (48, _), (49, _), (9, _)], _⟩ (_ :: _ :: _ :: _ :: ψ) rfl rfl ?_
          refine JL_loadA (vs := [_]) 0 ty33 rfl rfl ⟨rfl, trivial⟩ ?_
          exact JL_nil (JE_stepV rfl ss0))), OblS_V (fun vals ex ψ => (by
          refine JL_normQ ⟨178, [(46, _), (47, _), (48, _), (49, _), (9, _)], _⟩ (_ :: _ :: _ :: _ :: ψ) rfl rfl ?_
          refine JL_move rfl ?_
          exact JL_nil (JE_stepV rfl ss0))), OblS_C (fun vals ex ψ => (by
          refine JL_normQ ⟨178, [(46, _), (47, _), (48, _), (49, _), (9, _)], _⟩ (_ :: _ :: _ :: _ :: ψ) rfl rfl ?_
          refine JL_callF' Asks.nil (rof_con sc (by omega)) rfl ca80 ⟨rfl, rfl⟩ ?_
          exact fun v φo hP => JL_nil (JE_stepC φo rfl hP (fun p hp => mapB_l hp) (fun p hp => mapB_r (ss0 p hp))))), OblS_C (fun vals ex ψ => (by
          refine JL_normQ ⟨178, [(46, _), (47, _), (48, _), (49, _), (9, _)], _⟩ (_ :: _ :: _ :: _ :: _ :: ψ) rfl rfl ?_
          generalize vals 2 = x48
          refine JL_usePost mm0 (fun φo hP => ?_)
          obtain ⟨ad48, cap48, rfl, hk48, hm48, rfl⟩ := hP
          refine JL_norm _ _ (_ :: _ :: _ :: _ :: _ :: _ :: ψ) rfl rfl rfl ?_
          refine JL_callF' (Asks.cons (holds_of_mem (by repeat (first | with_reducible exact mm0 | refine mmS ?_))) (Asks.cons (holds_of_mem (by repeat (first | with_reducible exact mm0 | refine mmS ?_))) Asks.nil)) (rmul_con _ _ _ _ _ (NIn.of (by omega)) _ _ _ _ _ (NIn.of (by omega)) N hN) rfl ca96 ⟨rfl, rfl, rfl⟩ ?_
          exact fun v φo hP => JL_nil (JE_stepC φo rfl hP (fun p hp => mapB_l hp) (fun p hp => mapB_r ((ssS ss0) p hp))))), OblS_al rfl z33, trivial⟩ (by kernel_rfl) (fun vals bs => ?_)
      refine JL_normL [_] ⟨178, [(46, _), (47, _), (48, _), (49, _), (9, _)], _⟩ [box _ _ [_], box _ _ [_], box _ _ [_], box _ _ [_], box _ _ [_]] [_, _, _, _, _, _] rfl rfl rfl rfl ?_
      generalize vals (0 + 1 + 1) = x48
      generalize vals (0 + 1 + 1 + 1) = x49
      generalize bs (0 + 1 + 1 + 1 + 1) = b9
      refine JL_usePost (mmS mm0) (fun φo hP => ?_)
      obtain ⟨ad49, cap49, rfl, hk49, hm49, rfl⟩ := hP
      refine JL_norm _ [box _ _ [_], box _ _ [_], box _ _ [_], box _ _ [_], box _ _ [_]] [_, _, _, _, _, _, _] rfl rfl rfl ?_
      refine JL_store (vs := [_]) 4 ty33 rfl rfl rfl (AllOne.cons rfl AllOne.nil) rfl (Nat.le_of_ble_eq_true rfl) ?_
      refine JL_done_up 178 [box _ _ [_], box _ _ [_], box _ _ [_], box _ _ [_], box _ _ [_]] [_, _, _, _, _, _, _] rfl rfl (by simp only [nrmF]; rfl) rfl rfl ?_
      refine JC_seq ?_
      refine JC_drawT mixed 5 [spV 50 [] _, spV 51 [] _, spC 52 [1] _, spC 53 [0, 2] _, spA 10 33 [.slice none 0 0]] ⟨OblS_V (fun vals ex ψ => (by
          refine JL_normQ ⟨178, [(50, _), (51, _), (52, _), (53, _), (10, _)], _⟩ (_ :: _ :: _ :: _ :: _ :: _ :: _ :: ψ) rfl rfl ?_
          refine JL_loadA (vs := [_]) 1 ty33 rfl rfl ⟨rfl, trivial⟩ ?_
          exact JL_nil (JE_stepV rfl ss0))), OblS_V (fun vals ex ψ => (by
          refine JL_normQ ⟨178, [(50, _), (51, _), (52, _), (53, _), (10, _)], _⟩ (_ :: _ :: _ :: _ :: _ :: _ :: _ :: ψ) rfl rfl ?_
          refine JL_move rfl ?_
          exact JL_nil (JE_stepV rfl ss0))), OblS_C (fun vals ex ψ => (by
          refine JL_normQ ⟨178, [(50, _), (51, _), (52, _), (53, _), (10, _)], _⟩ (_ :: _ :: _ :: _ :: _ :: _ :: _ :: ψ) rfl rfl ?_
          refine JL_callF' Asks.nil (rof_con sc (by omega)) rfl ca80 ⟨rfl, rfl⟩ ?_
          exact fun v φo hP => JL_nil (JE_stepC φo rfl hP (fun p hp => mapB_l hp) (fun p hp => mapB_r (ss0 p hp))))), OblS_C (fun vals ex ψ => (by
          refine JL_normQ ⟨178, [(50, _), (51, _), (52, _), (53, _), (10, _)], _⟩ (_ :: _ :: _ :: _ :: _ :: _ :: _ :: _ :: ψ) rfl rfl ?_
          generalize vals 2 = x52
          refine JL_usePost mm0 (fun φo hP => ?_)
          obtain ⟨ad52, cap52, rfl, hk52, hm52, rfl⟩ := hP
          refine JL_norm _ _ (_ :: _ :: _ :: _ :: _ :: _ :: _ :: _ :: _ :: ψ) rfl rfl rfl ?_
          refine JL_callF' (Asks.cons (holds_of_mem (by repeat (first | with_reducible exact mm0 | refine mmS ?_))) (Asks.cons (holds_of_mem (by repeat (first | with_reducible exact mm0 | refine mmS ?_))) Asks.nil)) (rmul_con _ _ _ _ _ (NIn.of (by omega)) _ _ _ _ _ (NIn.of (by omega)) V hV) rfl ca96 ⟨rfl, rfl, rfl⟩ ?_
          exact fun v φo hP => JL_nil (JE_stepC φo rfl hP (fun p hp => mapB_l hp) (fun p hp => mapB_r ((ssS ss0) p hp))))), OblS_al rfl z33, trivial⟩ (by kernel_rfl) (fun vals bs => ?_)
      refine JL_normL [_] ⟨178, [(50, _), (51, _), (52, _), (53, _), (10, _)], _⟩ [box _ _ [_], box _ _ [_], box _ _ [_], box _ _ [_], box _ _ [_], box _ _ [_]] [_, _, _, _, _, _, _, _, _] rfl rfl rfl rfl ?_
      generalize vals (0 + 1 + 1) = x52
      generalize vals (0 + 1 + 1 + 1) = x53
      generalize bs (0 + 1 + 1 + 1 + 1) = b10
      refine JL_usePost (mmS mm0) (fun φo hP => ?_)
      obtain ⟨ad53, cap53, rfl, hk53, hm53, rfl⟩ := hP
      refine JL_norm _ [box _ _ [_], box _ _ [_], box _ _ [_], box _ _ [_], box _ _ [_], box _ _ [_]] [_, _, _, _, _, _, _, _, _, _] rfl rfl rfl ?_
      refine JL_store (vs := [_]) 5 ty33 rfl rfl rfl (AllOne.cons rfl AllOne.nil) rfl (Nat.le_of_ble_eq_true rfl) ?_
      refine JL_done_up 178 [box _ _ [_], box _ _ [_], box _ _ [_], box _ _ [_], box _ _ [_], box _ _ [_]] [_, _, _, _, _, _, _, _, _, _] rfl rfl (by simp only [nrmF]; rfl) rfl rfl ?_
      refine JC_seq ?_
      refine JC_region ?_
      refine JL_fieldAddr fo33_0 rfl ?_
      refine JL_load 5 ty31 rfl rfl rfl ?_
      refine JL_move rfl ?_
      refine JL_sub_to rfl rfl (IntWalk.i64_in _ (by omega)) ?_
      refine JL_idx ((limbsOf x2).length - 1) sl31 rfl rfl (by omega) (by omega) (by first | exact Reads.view (by repeat (first | with_reducible exact mm0 | refine mmS ?_))) (by first | (rw [u32s_length]; omega) | (rw [i64s_length]; omega)) ?_
      refine JL_loadE ty101 rfl (by first | exact Reads.view (by repeat (first | with_reducible exact mm0 | refine mmS ?_))) (u32s_get (by omega)) ?_
      rw [hvt]
      refine JL_convInt us101 it87 rfl (IntWalk.u64_in _ (by omega)) ?_
      refine JL_assign rfl ?_
      refine JL_done_up 178 [box _ _ [_], box _ _ [_], box _ _ [_], box _ _ [_], box _ _ [_], box _ _ [_]] [_, _, _, _, _, _, _, _, _, _] rfl rfl (by simp only [nrmF]; rfl) rfl rfl ?_
      refine JC_seq ?_
      refine JC_region ?_
      refine JL_fieldAddr fo33_0 rfl ?_
      refine JL_load 4 ty31 rfl rfl rfl ?_
      refine JL_len sl31 rfl ?_
      refine JL_make1 (limbsOf N).length (limbsOf N).length sl31 rfl rfl rfl rfl (by omega) (by omega) (by omega) (fun g64 => ?_)
      rw [u32s_replicate]
      refine JL_assign rfl ?_
      refine JL_done_up 178 [box _ _ [_], box _ _ [_], box _ _ [_], box _ _ [_], box _ _ [_], box _ _ [_], osl _ _ _ _ _ _] [_, _, _, _, _, _, _, _, _, _] rfl rfl (by simp only [nrmF]; rfl) rfl rfl ?_
      refine JC_seq ?_
      refine JC_region ?_
      refine JL_build (cs := [_]) [] st33 rfl rfl ?_
      refine JL_alloc z33 (fun b13 => ?_)
      refine JL_store (vs := [_]) 7 ty33 rfl rfl rfl (AllOne.cons rfl AllOne.nil) rfl (Nat.le_of_ble_eq_true rfl) ?_
      refine JL_done_up 178 [box _ _ [_], box _ _ [_], box _ _ [_], box _ _ [_], box _ _ [_], box _ _ [_], osl _ _ _ _ _ _, box _ _ [_]] [_, _, _, _, _, _, _, _, _, _] rfl rfl (by simp only [nrmF]; rfl) rfl rfl ?_
      refine JC_seq ?_
      refine JC_seq ?_
      refine JC_region ?_
      refine JL_fieldAddr fo33_0 rfl ?_
      refine JL_load 4 ty31 rfl rfl rfl ?_
      refine JL_len sl31 rfl ?_
      refine JL_sub_to rfl rfl (IntWalk.i64_in _ (by omega)) ?_
      refine JL_assign rfl ?_
      refine JL_done_up 178 [box _ _ [_], box _ _ [_], box _ _ [_], box _ _ [_], box _ _ [_], box _ _ [_], osl _ _ _ _ _ _, box _ _ [_]] [_, _, _, _, _, _, _, _, _, _] rfl rfl (by simp only [nrmF]; rfl) rfl rfl ?_
      refine JC_block ?_
      refine JC_nilView ?_
      refine JC_loopS ((Nat) × (Option Addr) × (Nat) × (Nat) × (Nat) × (List Nat) × (List Nat)) (fun (jj, ra, rn, rc, R, RL, q) => RInv N V (limbsOf N).length (limbsOf N) R q jj ∧ RL = limbsOf R ∧ (limbsOf R).length = rn ∧ jj ≤ (limbsOf N).length) (fun (jj, ra, rn, rc, R, RL, q) => jj) (fun u (jj, ra, rn, rc, R, RL, q) => [none, none, none, none, none, none, none, none, none, none, none, none, none, none, some (.int .i64 ((jj : Nat) - 1)), some (u 15), some (u 16), none, none, none, none, none, none, none, none, none, none, none, none, none, none, none, none, none, none, none, none, none, none, none, none, none, none, none, none, none, none, none, none, none, none, none, none, none, none, none, none, none, none, none, none, none, none, none, none, none, none, none, none, none, some (u 70), some (u 71), some (u 72), some (u 73), some (u 74), some (u 75), some (u 76), some (u 77), some (u 78), some (u 79), some (u 80), some (u 81), some (u 82), some (u 83), some (u 84), some (u 85), some (u 86), some (u 87), some (u 88), some (u 89), some (u 90), some (u 91), some (u 92), some (u 93), some (u 94), some (u 95), some (u 96), some (u 97), some (u 98), some (u 99), some (u 100), some (u 101), some (u 102), some (u 103), some (u 104), some (u 105), some (u 106), some (u 107), some (u 108), some (u 109), some (u 110), some (u 111), some (u 112), some (u 113), some (u 114), some (u 115), some (u 116), some (u 117), some (u 118), some (u 119), some (u 120), some (u 121), some (u 122), some (u 123), some (u 124), some (u 125), some (u 126), some (u 127), some (u 128), some (u 129), some (u 130), some (u 131), some (u 132), some (u 133), some (u 134), some (u 135), some (u 136), some (u 137), some (u 138), some (u 139), some (u 140), none, none, none, none, none, none, none, none, none, none, none, none, none, none, none, none, none, none, none, none, none, none, none, none, none, none, none, none, none, none, none, none, none, none, none, none, none]) (fun (jj, ra, rn, rc, R, RL, q) => [none, none, none, none, none, none, some (osl (some ⟨g64, 0, none⟩) (limbsOf N).length (limbsOf N).length 101 1 (u32s q)), some (box b13 33 [.slice ra rn rc])]) (fun (jj, ra, rn, rc, R, RL, q) => [(true, vCells ra (u32s RL))]) ((limbsOf N).length, none, 0, 0, 0, [], List.replicate (limbsOf N).length 0) (by kernel_rfl) ?_ (by kernel_rfl) ?_ ?_
      · exact ⟨RInv.start (dig_limbsOf N) (val_limbsOf N).symm hV0, limbsOf_zero.symm, by rw [limbsOf_zero]; rfl, Nat.le_refl _⟩
      · exact (subset_cons (by repeat (first | with_reducible exact mm0 | refine mmS ?_)) subset_nil)
      intro u i hC
      obtain ⟨jj, ra, rn, rc, R, RL, q⟩ := i
      obtain ⟨hI, rfl, rfl, hjj⟩ := hC
      refine JC_norm ⟨178, [], [_, _, _, _, _, _, _, _, _, _, _, _, _, _, _, _, _, _, _, _, _, _, _, _, _, _, _, _, _, _, _, _, _, _, _, _, _, _, _, _, _, _, _, _, _, _, _, _, _, _, _, _, _, _, _, _, _, _, _, _, _, _, _, _, _, _, _, _, _, _, _, _, _, _, _, _, _, _, _, _, _, _, _, _, _, _, _, _, _, _, _, _, _, _, _, _, _, _, _, _, _, _, _, _, _, _, _, _, _, _, _, _, _, _, _, _, _, _, _, _, _, _, _, _, _, _, _, _, _, _, _, _, _, _, _, _, _, _, _, _, _, _, _, _, _, _, _, _, _, _, _, _, _, _, _, _, _, _, _, _, _, _, _, _, _, _, _, _, _, _, _, _, _, _, _, _, _, _]⟩ [box _ _ [_], box _ _ [_], box _ _ [_], box _ _ [_], box _ _ [_], box _ _ [_], osl _ _ _ _ _ _, box _ _ [_]] [_, _, _, _, _, _, _, _, _, _, _, _] rfl rfl rfl ?_
      have hRl := len_limbsOf_le (Nat.le_of_lt hI.lt)
      refine JC_seq ?_
      refine JC_seq ?_
      refine JC_region ?_
      refine JL_move rfl ?_
      refine JL_geq rfl rfl ?_
      refine JL_split (fun h71 => ?_) (fun h71 => ?_)
      · have hI1 : RInv N V (limbsOf N).length (limbsOf N) R q (jj - 1 + 1) := by rw [Nat.sub_add_cancel (by omega)]; exact hI
        have hPV := hI1.part_lt (jj - 1)
        have hX := (dig_limbsOf N).getD (jj - 1)
        obtain ⟨P, hP⟩ : ∃ P, (limbsOf N).getD (jj - 1) 0 + 1000000000 * R = P := ⟨_, rfl⟩
        rw [hP] at hPV
        have hPl := part_len hPV
        have htP := (dig_limbsOf P).getD (limbsOf x2).length
        have htP2 := (dig_limbsOf P).getD ((limbsOf x2).length - 1)
        refine JL_done_up 178 [box _ _ [_], box _ _ [_], box _ _ [_], box _ _ [_], box _ _ [_], box _ _ [_], osl _ _ _ _ _ _, box _ _ [_]] [_, _, _, _, _, _, _, _, _, _, _, _] rfl rfl (by simp only [nrmF]; rfl) rfl rfl ?_
        refine JC_true rfl ?_
        refine JC_skip ?_
        refine JE_then ?_
        refine JC_seq ?_
        refine JC_block ?_
        refine JC_seq ?_
        refine JC_drawT mixed 8 [spV 74 [] _, spV 75 [0] _, spV 76 [] _, spV 77 [1, 2] _, spV 78 [3] _, spC 79 [4] (fun v φo => ∃ ad, v = .slice ad 1 1 ∧ φo = [vCells ad (u32s [(limbsOf N).getD (jj - 1) 0])]), spV 80 [] _, spV 81 [6] _] ⟨OblS_V (fun vals ex ψ => (by
            refine JL_normQ ⟨178, [(74, _), (75, _), (76, _), (77, _), (78, _), (79, _), (80, _), (81, _)], _⟩ (_ :: _ :: _ :: _ :: _ :: _ :: _ :: _ :: _ :: _ :: _ :: _ :: ψ) rfl rfl ?_
            refine JL_fieldAddr fo33_0 rfl ?_
            exact JL_nil (JE_stepV rfl ss0))), OblS_V (fun vals ex ψ => (by
            refine JL_normQ ⟨178, [(74, _), (75, _), (76, _), (77, _), (78, _), (79, _), (80, _), (81, _)], _⟩ (_ :: _ :: _ :: _ :: _ :: _ :: _ :: _ :: _ :: _ :: _ :: _ :: ψ) rfl rfl ?_
            refine JL_load 4 ty31 rfl rfl rfl ?_
            exact JL_nil (JE_stepV rfl ss0))), OblS_V (fun vals ex ψ => (by
            refine JL_normQ ⟨178, [(74, _), (75, _), (76, _), (77, _), (78, _), (79, _), (80, _), (81, _)], _⟩ (_ :: _ :: _ :: _ :: _ :: _ :: _ :: _ :: _ :: _ :: _ :: _ :: ψ) rfl rfl ?_
            refine JL_move rfl ?_
            exact JL_nil (JE_stepV rfl ss0))), OblS_V (fun vals ex ψ => (by
            refine JL_normQ ⟨178, [(74, _), (75, _), (76, _), (77, _), (78, _), (79, _), (80, _), (81, _)], _⟩ (_ :: _ :: _ :: _ :: _ :: _ :: _ :: _ :: _ :: _ :: _ :: _ :: ψ) rfl rfl ?_
            refine JL_idx (jj - 1) sl31 rfl rfl (by omega) (by omega) (by first | exact Reads.view (by repeat (first | with_reducible exact mm0 | refine mmS ?_)) | (exact Reads.own 6 rfl)) (by first | (rw [u32s_length]; omega) | (rw [i64s_length]; omega)) ?_
            exact JL_nil (JE_stepV rfl ss0))), OblS_V (fun vals ex ψ => (by
            refine JL_normQ ⟨178, [(74, _), (75, _), (76, _), (77, _), (78, _), (79, _), (80, _), (81, _)], _⟩ (_ :: _ :: _ :: _ :: _ :: _ :: _ :: _ :: _ :: _ :: _ :: _ :: ψ) rfl rfl ?_
            refine JL_loadE ty101 rfl (by first | exact Reads.view (by repeat (first | with_reducible exact mm0 | refine mmS ?_)) | (exact Reads.own 6 rfl)) (u32s_get (by omega)) ?_
            exact JL_nil (JE_stepV rfl ss0))), OblS_C (fun vals ex ψ => (by
            refine JL_normQ ⟨178, [(74, _), (75, _), (76, _), (77, _), (78, _), (79, _), (80, _), (81, _)], _⟩ (_ :: _ :: _ :: _ :: _ :: _ :: _ :: _ :: _ :: _ :: _ :: _ :: ψ) rfl rfl ?_
            refine JL_build1U ((limbsOf N).getD (jj - 1) 0) sl31 rfl (fun g79 => ?_)
            refine JL_giveLast ?_
            exact JL_nil (JE_stepC [vCells (some ⟨g79, 0, none⟩) (u32s [(limbsOf N).getD (jj - 1) 0])] rfl ⟨_, rfl, rfl⟩ (all_cons (by repeat (first | with_reducible exact mm0 | refine mmS ?_)) all_nil) (ssS ss0)))), OblS_V (fun vals ex ψ => (by
            refine JL_normQ ⟨178, [(74, _), (75, _), (76, _), (77, _), (78, _), (79, _), (80, _), (81, _)], _⟩ (_ :: _ :: _ :: _ :: _ :: _ :: _ :: _ :: _ :: _ :: _ :: _ :: ψ) rfl rfl ?_
            refine JL_fieldAddr fo33_0 rfl ?_
            exact JL_nil (JE_stepV rfl ss0))), OblS_V (fun vals ex ψ => (by
            refine JL_normQ ⟨178, [(74, _), (75, _), (76, _), (77, _), (78, _), (79, _), (80, _), (81, _)], _⟩ (_ :: _ :: _ :: _ :: _ :: _ :: _ :: _ :: _ :: _ :: _ :: _ :: ψ) rfl rfl ?_
            refine JL_load 7 ty31 rfl rfl rfl ?_
            exact JL_nil (JE_stepV rfl ss0))), trivial⟩ (by kernel_rfl) (fun vals bs => ?_)
        refine JL_normL [_, _, _, _] ⟨178, [(74, _), (75, _), (76, _), (77, _), (78, _), (79, _), (80, _), (81, _)], _⟩ [box _ _ [_], box _ _ [_], box _ _ [_], box _ _ [_], box _ _ [_], box _ _ [_], osl _ _ _ _ _ _, box _ _ [_]] [_, _, _, _, _, _, _, _, _, _, _, _, _] rfl rfl rfl rfl ?_
        generalize vals (0 + 1 + 1 + 1 + 1 + 1) = x79
        refine JL_usePost mm0 (fun φo hP => ?_)
        obtain ⟨ad79, rfl, rfl⟩ := hP
        refine JL_norm _ [box _ _ [_], box _ _ [_], box _ _ [_], box _ _ [_], box _ _ [_], box _ _ [_], osl _ _ _ _ _ _, box _ _ [_]] [_, _, _, _, _, _, _, _, _, _, _, _, _, _] rfl rfl rfl ?_
        refine JL_appendVU (L := [(limbsOf N).getD (jj - 1) 0]) (M := limbsOf R) List.mem_cons_self (by first | exact Reads.view (by repeat (first | with_reducible exact mm0 | refine mmS ?_)) | (exact Reads.own 6 rfl)) sl31 rfl rfl rfl rfl rfl (by omega) (by omega) (fun ad82 cap82 hc82 => ?_)
        refine JL_build (cs := [_]) [(0, [_])] st33 ⟨⟨rfl, _, rfl, rfl⟩, rfl⟩ rfl ?_
        refine JL_callF' (Asks.cons (by first | exact holds_of_mem (by repeat (first | with_reducible exact mm0 | refine mmS ?_)) | (exact holds_of_own 6 rfl)) Asks.nil) (rnorm_con _ _ _ ([(limbsOf N).getD (jj - 1) 0] ++ limbsOf R) P ⟨by rw [List.length_append]; rfl, U32.ofDig ((Dig.cons (by omega) Dig.nil).append (dig_limbsOf R)), by show _ + 1000000000 * val (limbsOf R) = P; rw [val_limbsOf]; exact hP, by omega⟩) rfl ca95 ⟨rfl, rfl⟩ ?_
        rintro _ _ ⟨ad84, cap84, rfl, hk84, hm84, rfl⟩
        refine JL_store (vs := [_]) 7 ty33 rfl rfl rfl (AllOne.cons rfl AllOne.nil) rfl (Nat.le_of_ble_eq_true rfl) ?_
        refine JL_done_up 178 [box _ _ [_], box _ _ [_], box _ _ [_], box _ _ [_], box _ _ [_], box _ _ [_], osl _ _ _ _ _ _, box _ _ [_]] [_, _, _, _, _, _, _, _, _, _, _, _, _, _, _, _] rfl rfl (by simp only [nrmF]; rfl) rfl rfl ?_
        refine JC_seq ?_
        refine JC_region ?_
        refine JL_assign rfl ?_
        refine JL_done_up 178 [box _ _ [_], box _ _ [_], box _ _ [_], box _ _ [_], box _ _ [_], box _ _ [_], osl _ _ _ _ _ _, box _ _ [_]] [_, _, _, _, _, _, _, _, _, _, _, _, _, _, _, _] rfl rfl (by simp only [nrmF]; rfl) rfl rfl ?_
        refine JC_seq ?_
        refine JC_seq ?_
        refine JC_region ?_
        refine JL_fieldAddr fo33_0 rfl ?_
        refine JL_load 7 ty31 rfl rfl rfl ?_
        refine JL_len sl31 rfl ?_
        refine JL_move rfl ?_
        refine JL_gtr rfl rfl ?_
        refine JL_done_up 178 [box _ _ [_], box _ _ [_], box _ _ [_], box _ _ [_], box _ _ [_], box _ _ [_], osl _ _ _ _ _ _, box _ _ [_]] [_, _, _, _, _, _, _, _, _, _, _, _, _, _, _, _] rfl rfl (by simp only [nrmF]; rfl) rfl rfl ?_
        refine JC_cutT ((Nat)) (fun (g0 : Nat) => (g0 = (limbsOf P).getD (limbsOf x2).length 0 * 1000000000 ∧ (limbsOf P).length = (limbsOf x2).length + 1) ∨ (g0 = 0 ∧ (limbsOf P).length ≤ (limbsOf x2).length)) (fun u (g0 : Nat) => [none, none, none, none, none, none, none, none, none, none, none, none, none, none, none, some (.int .u64 (g0 : Nat)), none, none, none, none, none, none, none, none, none, none, none, none, none, none, none, none, none, none, none, none, none, none, none, none, none, none, none, none, none, none, none, none, none, none, none, none, none, none, none, none, none, none, none, none, none, none, none, none, none, none, none, none, none, none, none, none, none, none, none, none, none, none, none, none, none, none, none, none, none, none, none, none, none, none, some (u 90), some (u 91), some (u 92), some (u 93), some (u 94), some (u 95), some (u 96), none, none, none, none, none, none, none, none, none, none, none, none, none, none, none, none, none, none, none, none, none, none, none, none, none, none, none, none, none, none, none, none, none, none, none, none, none, none, none, none, none, none, none, none, none, none, none, none, none, none, none, none, none, none, none, none, none, none, none, none, none, none, none, none, none, none, none, none, none, none, none, none, none, none, none, none, none, none, none, none, none]) (fun (g0 : Nat) => [none, none, none, none, none, none, none, none]) (fun (g0 : Nat) => []) ?_ ?_
        · refine JC_cond rfl (fun hb => ?_) (fun hb => ?_)
          · have h89 := of_decide_eq_true hb
            refine JC_region ?_
            refine JL_fieldAddr fo33_0 rfl ?_
            refine JL_load 7 ty31 rfl rfl rfl ?_
            refine JL_move rfl ?_
            refine JL_idx (limbsOf x2).length sl31 rfl rfl rfl (by omega) (by first | exact Reads.view (by repeat (first | with_reducible exact mm0 | refine mmS ?_)) | (exact Reads.own 6 rfl)) (by first | (rw [u32s_length]; omega) | (rw [i64s_length]; omega)) ?_
            refine JL_loadE ty101 rfl (by first | exact Reads.view (by repeat (first | with_reducible exact mm0 | refine mmS ?_)) | (exact Reads.own 6 rfl)) (u32s_get (by omega)) ?_
            refine JL_convInt us101 it87 rfl (IntWalk.u64_in _ (by omega)) ?_
            refine JL_mul_to rfl rfl (IntWalk.u64_in _ (by omega)) ?_
            refine JL_assign rfl ?_
            refine JL_nil_up 178 [box _ _ [_], box _ _ [_], box _ _ [_], box _ _ [_], box _ _ [_], box _ _ [_], osl _ _ _ _ _ _, box _ _ [_]] [_, _, _, _, _, _, _, _, _, _, _, _, _, _, _, _] rfl rfl (by simp only [nrmF]; rfl) rfl rfl ?_
            refine JE_midS ((limbsOf P).getD (limbsOf x2).length 0 * 1000000000) (by kernel_rfl) ?_ (by kernel_rfl) ?_
            · exact .inl ⟨rfl, by omega⟩
            · exact subset_app subset_nil ss0
          · have h89 := of_decide_eq_false hb
            refine JC_skip ?_
            refine JE_midS (0) (by kernel_rfl) ?_ (by kernel_rfl) ?_
            · exact .inr ⟨rfl, by omega⟩
            · exact subset_app subset_nil ss0
        intro u g0 hg0
        refine JC_norm ⟨178, [], [_, _, _, _, _, _, _, _, _, _, _, _, _, _, _, _, _, _, _, _, _, _, _, _, _, _, _, _, _, _, _, _, _, _, _, _, _, _, _, _, _, _, _, _, _, _, _, _, _, _, _, _, _, _, _, _, _, _, _, _, _, _, _, _, _, _, _, _, _, _, _, _, _, _, _, _, _, _, _, _, _, _, _, _, _, _, _, _, _, _, _, _, _, _, _, _, _, _, _, _, _, _, _, _, _, _, _, _, _, _, _, _, _, _, _, _, _, _, _, _, _, _, _, _, _, _, _, _, _, _, _, _, _, _, _, _, _, _, _, _, _, _, _, _, _, _, _, _, _, _, _, _, _, _, _, _, _, _, _, _, _, _, _, _, _, _, _, _, _, _, _, _, _, _, _, _, _, _]⟩ [box _ _ [_], box _ _ [_], box _ _ [_], box _ _ [_], box _ _ [_], box _ _ [_], osl _ _ _ _ _ _, box _ _ [_]] [_, _, _, _, _, _, _, _, _, _, _, _, _, _, _, _] rfl rfl rfl ?_
        refine JC_seq ?_
        refine JC_seq ?_
        refine JC_region ?_
        refine JL_fieldAddr fo33_0 rfl ?_
        refine JL_load 7 ty31 rfl rfl rfl ?_
        refine JL_len sl31 rfl ?_
        refine JL_move rfl ?_
        refine JL_geq rfl rfl ?_
        refine JL_done_up 178 [box _ _ [_], box _ _ [_], box _ _ [_], box _ _ [_], box _ _ [_], box _ _ [_], osl _ _ _ _ _ _, box _ _ [_]] [_, _, _, _, _, _, _, _, _, _, _, _, _, _, _, _] rfl rfl (by simp only [nrmF]; rfl) rfl rfl ?_
        refine JC_cutT ((Nat)) (fun (g : Nat) => P / V ≤ g ∧ g ≤ 999999999) (fun u (g : Nat) => [none, none, none, none, none, none, none, none, none, none, none, none, none, none, none, some (.int .u64 (g : Nat)), none, none, none, none, none, none, none, none, none, none, none, none, none, none, none, none, none, none, none, none, none, none, none, none, none, none, none, none, none, none, none, none, none, none, none, none, none, none, none, none, none, none, none, none, none, none, none, none, none, none, none, none, none, none, none, none, none, none, none, none, none, none, none, none, none, none, none, none, none, none, none, none, none, none, none, none, none, none, none, none, none, none, none, none, none, none, some (u 102), some (u 103), some (u 104), some (u 105), some (u 106), some (u 107), some (u 108), some (u 109), some (u 110), some (u 111), some (u 112), some (u 113), none, none, none, none, none, none, none, none, none, none, none, none, none, none, none, none, none, none, none, none, none, none, none, none, none, none, none, none, none, none, none, none, none, none, none, none, none, none, none, none, none, none, none, none, none, none, none, none, none, none, none, none, none, none, none, none, none, none, none, none, none, none, none, none]) (fun (g : Nat) => [none, none, none, none, none, none, none, none]) (fun (g : Nat) => []) ?_ ?_
        · refine JC_cond rfl (fun hb => ?_) (fun hb => ?_)
          · have h101 := of_decide_eq_true hb
            refine JC_region ?_
            refine JL_move rfl ?_
            refine JL_fieldAddr fo33_0 rfl ?_
            refine JL_load 7 ty31 rfl rfl rfl ?_
            refine JL_move rfl ?_
            refine JL_sub_to rfl rfl (IntWalk.i64_in _ (by omega)) ?_
            refine JL_idx ((limbsOf x2).length - 1) sl31 rfl rfl (by omega) (by omega) (by first | exact Reads.view (by repeat (first | with_reducible exact mm0 | refine mmS ?_)) | (exact Reads.own 6 rfl)) (by first | (rw [u32s_length]; omega) | (rw [i64s_length]; omega)) ?_
            refine JL_loadE ty101 rfl (by first | exact Reads.view (by repeat (first | with_reducible exact mm0 | refine mmS ?_)) | (exact Reads.own 6 rfl)) (u32s_get (by omega)) ?_
            refine JL_convInt us101 it87 rfl (IntWalk.u64_in _ (by omega)) ?_
            obtain ⟨top, htt⟩ : ∃ top, g0 + (limbsOf P).getD ((limbsOf x2).length - 1) 0 = top := ⟨_, rfl⟩
            have htop1 : top = P / 1000000000 ^ ((limbsOf x2).length - 1) := by
              rcases hg0 with ⟨e, hl⟩ | ⟨e, hl⟩
              · rw [← htt, e]; exact top2' (by omega) (by omega) (by omega)
              · rw [← htt, e, Nat.zero_add]; exact top1' rfl (by omega)
            have htop64 : top < 18446744073709551616 := by rw [htop1, ← hVlen]; exact top_lt hV0 hPV
            have hgg := guess_ge hV0 hPV htop1 htV1 htV0
            obtain ⟨gq, hgq⟩ : ∃ gq, top / vt = gq := ⟨_, rfl⟩
            rw [hgq] at hgg
            refine JL_add_to rfl rfl (IntWalk.u64_in _ (by omega)) ?_
            rw [show (((g0 : Nat) : Int) + (((limbsOf P).getD ((limbsOf x2).length - 1) 0 : Nat) : Int) : Int) = ((top : Nat) : Int) from by omega]
            refine JL_move rfl ?_
            refine JL_quo_to rfl rfl (by omega) (quo_nat_u64 top vt htop64) ?_
            rw [hgq]
            refine JL_min rfl rfl ?_
            rw [show (if (999999999 : Int) < ((gq : Nat) : Int) then (999999999 : Int) else ((gq : Nat) : Int)) = ((min gq 999999999 : Nat) : Int) from by split <;> omega]
            refine JL_assign rfl ?_
            refine JL_nil_up 178 [box _ _ [_], box _ _ [_], box _ _ [_], box _ _ [_], box _ _ [_], box _ _ [_], osl _ _ _ _ _ _, box _ _ [_]] [_, _, _, _, _, _, _, _, _, _, _, _, _, _, _, _] rfl rfl (by simp only [nrmF]; rfl) rfl rfl ?_
            refine JE_midS (min gq 999999999) (by kernel_rfl) ?_ (by kernel_rfl) ?_
            · exact ⟨hgg, by omega⟩
            · exact subset_app subset_nil ss0
          · have h101 := of_decide_eq_false hb
            refine JC_skip ?_
            refine JE_midS (g0) (by kernel_rfl) ?_ (by kernel_rfl) ?_
            · rcases hg0 with ⟨e, hl⟩ | ⟨e, hl⟩
              · omega
              · exact ⟨by rw [Nat.div_eq_of_lt (length_limbsOf_lt (by omega))]; exact Nat.zero_le _, by omega⟩
            · exact subset_app subset_nil ss0
        intro u g hC
        obtain ⟨hgl, hg9⟩ := hC
        refine JC_norm ⟨178, [], [_, _, _, _, _, _, _, _, _, _, _, _, _, _, _, _, _, _, _, _, _, _, _, _, _, _, _, _, _, _, _, _, _, _, _, _, _, _, _, _, _, _, _, _, _, _, _, _, _, _, _, _, _, _, _, _, _, _, _, _, _, _, _, _, _, _, _, _, _, _, _, _, _, _, _, _, _, _, _, _, _, _, _, _, _, _, _, _, _, _, _, _, _, _, _, _, _, _, _, _, _, _, _, _, _, _, _, _, _, _, _, _, _, _, _, _, _, _, _, _, _, _, _, _, _, _, _, _, _, _, _, _, _, _, _, _, _, _, _, _, _, _, _, _, _, _, _, _, _, _, _, _, _, _, _, _, _, _, _, _, _, _, _, _, _, _, _, _, _, _, _, _, _, _, _, _, _, _]⟩ [box _ _ [_], box _ _ [_], box _ _ [_], box _ _ [_], box _ _ [_], box _ _ [_], osl _ _ _ _ _ _, box _ _ [_]] [_, _, _, _, _, _, _, _, _, _, _, _, _, _, _, _] rfl rfl rfl ?_
        have hg1 : (limbsOf g).length ≤ 1 := limbsOf_len_of_lt (by omega)
        refine JC_seq ?_
        refine JC_drawT mixed 5 [spV 114 [] _, spV 115 [] _, spC 116 [1] _, spC 117 [0, 2] _, spA 16 33 [.slice none 0 0]] ⟨OblS_V (fun vals ex ψ => (by
            refine JL_normQ ⟨178, [(114, _), (115, _), (116, _), (117, _), (16, _)], _⟩ (_ :: _ :: _ :: _ :: _ :: _ :: _ :: _ :: _ :: _ :: _ :: _ :: _ :: _ :: _ :: _ :: ψ) rfl rfl ?_
            refine JL_loadA (vs := [_]) 5 ty33 rfl rfl ⟨rfl, trivial⟩ ?_
            exact JL_nil (JE_stepV rfl ss0))), OblS_V (fun vals ex ψ => (by
            refine JL_normQ ⟨178, [(114, _), (115, _), (116, _), (117, _), (16, _)], _⟩ (_ :: _ :: _ :: _ :: _ :: _ :: _ :: _ :: _ :: _ :: _ :: _ :: _ :: _ :: _ :: _ :: ψ) rfl rfl ?_
            refine JL_move rfl ?_
            exact JL_nil (JE_stepV rfl ss0))), OblS_C (fun vals ex ψ => (by
            refine JL_normQ ⟨178, [(114, _), (115, _), (116, _), (117, _), (16, _)], _⟩ (_ :: _ :: _ :: _ :: _ :: _ :: _ :: _ :: _ :: _ :: _ :: _ :: _ :: _ :: _ :: _ :: ψ) rfl rfl ?_
            refine JL_callF' Asks.nil (rof_con g (by omega)) rfl ca80 ⟨rfl, rfl⟩ ?_
            exact fun v φo hP => JL_nil (JE_stepC φo rfl hP (fun p hp => mapB_l hp) (fun p hp => mapB_r (ss0 p hp))))), OblS_C (fun vals ex ψ => (by
            refine JL_normQ ⟨178, [(114, _), (115, _), (116, _), (117, _), (16, _)], _⟩ (_ :: _ :: _ :: _ :: _ :: _ :: _ :: _ :: _ :: _ :: _ :: _ :: _ :: _ :: _ :: _ :: _ :: ψ) rfl rfl ?_
            generalize vals 2 = x116
            refine JL_usePost mm0 (fun φo hP => ?_)
            obtain ⟨ad116, cap116, rfl, hk116, hm116, rfl⟩ := hP
            refine JL_norm _ _ (_ :: _ :: _ :: _ :: _ :: _ :: _ :: _ :: _ :: _ :: _ :: _ :: _ :: _ :: _ :: _ :: _ :: _ :: ψ) rfl rfl rfl ?_
            refine JL_callF' (Asks.cons (by first | exact holds_of_mem (by repeat (first | with_reducible exact mm0 | refine mmS ?_)) | (exact holds_of_own 6 rfl)) (Asks.cons (by first | exact holds_of_mem (by repeat (first | with_reducible exact mm0 | refine mmS ?_)) | (exact holds_of_own 6 rfl)) Asks.nil)) (rmul_con _ _ _ _ _ (NIn.of (by omega)) _ _ _ _ _ (NIn.of (by omega)) (V * g) rfl) rfl ca96 ⟨rfl, rfl, rfl⟩ ?_
            exact fun v φo hP => JL_nil (JE_stepC φo rfl hP (fun p hp => mapB_l hp) (fun p hp => mapB_r ((ssS ss0) p hp))))), OblS_al rfl z33, trivial⟩ (by kernel_rfl) (fun vals bs => ?_)
        refine JL_normL [_] ⟨178, [(114, _), (115, _), (116, _), (117, _), (16, _)], _⟩ [box _ _ [_], box _ _ [_], box _ _ [_], box _ _ [_], box _ _ [_], box _ _ [_], osl _ _ _ _ _ _, box _ _ [_], box _ _ [_]] [_, _, _, _, _, _, _, _, _, _, _, _, _, _, _, _, _, _] rfl rfl rfl rfl ?_
        generalize vals (0 + 1 + 1) = x116
        generalize vals (0 + 1 + 1 + 1) = x117
        generalize bs (0 + 1 + 1 + 1 + 1) = b16
        refine JL_usePost (mmS mm0) (fun φo hP => ?_)
        obtain ⟨ad117, cap117, rfl, hk117, hm117, rfl⟩ := hP
        refine JL_norm _ [box _ _ [_], box _ _ [_], box _ _ [_], box _ _ [_], box _ _ [_], box _ _ [_], osl _ _ _ _ _ _, box _ _ [_], box _ _ [_]] [_, _, _, _, _, _, _, _, _, _, _, _, _, _, _, _, _, _, _] rfl rfl rfl ?_
        refine JL_store (vs := [_]) 8 ty33 rfl rfl rfl (AllOne.cons rfl AllOne.nil) rfl (Nat.le_of_ble_eq_true rfl) ?_
        refine JL_done_up 178 [box _ _ [_], box _ _ [_], box _ _ [_], box _ _ [_], box _ _ [_], box _ _ [_], osl _ _ _ _ _ _, box _ _ [_], box _ _ [_]] [_, _, _, _, _, _, _, _, _, _, _, _, _, _, _, _, _, _, _] rfl rfl (by simp only [nrmF]; rfl) rfl rfl ?_
        refine JC_seq ?_
        refine JC_block ?_
        refine JC_loopS ((Nat) × (Option Addr) × (Nat)) (fun (gg, pa, pc) => P / V ≤ gg ∧ gg ≤ 999999999) (fun (gg, pa, pc) => gg) (fun u (gg, pa, pc) => [none, none, none, none, none, none, none, none, none, none, none, none, none, none, none, some (.int .u64 (gg : Nat)), none, none, none, none, none, none, none, none, none, none, none, none, none, none, none, none, none, none, none, none, none, none, none, none, none, none, none, none, none, none, none, none, none, none, none, none, none, none, none, none, none, none, none, none, none, none, none, none, none, none, none, none, none, none, none, none, none, none, none, none, none, none, none, none, none, none, none, none, none, none, none, none, none, none, none, none, none, none, none, none, none, none, none, none, none, none, none, none, none, none, none, none, none, none, none, none, none, none, none, none, none, none, some (u 118), some (u 119), some (u 120), some (u 121), some (u 122), some (u 123), some (u 124), some (u 125), some (u 126), some (u 127), some (u 128), some (u 129), none, none, none, none, none, none, none, none, none, none, none, none, none, none, none, none, none, none, none, none, none, none, none, none, none, none, none, none, none, none, none, none, none, none, none, none, none, none, none, none, none, none, none, none, none, none, none, none]) (fun (gg, pa, pc) => [none, none, none, none, none, none, none, none, some (box b16 33 [.slice pa (limbsOf (V * gg)).length pc])]) (fun (gg, pa, pc) => [(true, vCells pa (u32s (limbsOf (V * gg))))]) (g, ad117, cap117) (by kernel_rfl) ?_ (by kernel_rfl) ?_ ?_
        · exact ⟨hgl, hg9⟩
        · exact (subset_cons (by repeat (first | with_reducible exact mm0 | refine mmS ?_)) subset_nil)
        intro u i hC
        obtain ⟨gg, pa, pc⟩ := i
        obtain ⟨hgg1, hgg9⟩ := hC
        refine JC_norm ⟨178, [], [_, _, _, _, _, _, _, _, _, _, _, _, _, _, _, _, _, _, _, _, _, _, _, _, _, _, _, _, _, _, _, _, _, _, _, _, _, _, _, _, _, _, _, _, _, _, _, _, _, _, _, _, _, _, _, _, _, _, _, _, _, _, _, _, _, _, _, _, _, _, _, _, _, _, _, _, _, _, _, _, _, _, _, _, _, _, _, _, _, _, _, _, _, _, _, _, _, _, _, _, _, _, _, _, _, _, _, _, _, _, _, _, _, _, _, _, _, _, _, _, _, _, _, _, _, _, _, _, _, _, _, _, _, _, _, _, _, _, _, _, _, _, _, _, _, _, _, _, _, _, _, _, _, _, _, _, _, _, _, _, _, _, _, _, _, _, _, _, _, _, _, _, _, _, _, _, _, _]⟩ [box _ _ [_], box _ _ [_], box _ _ [_], box _ _ [_], box _ _ [_], box _ _ [_], osl _ _ _ _ _ _, box _ _ [_], box _ _ [_]] [_, _, _, _, _, _, _, _, _, _, _, _, _, _, _, _, _, _, _, _] rfl rfl rfl ?_
        have hggl : (limbsOf gg).length ≤ 1 := limbsOf_len_of_lt (by omega)
        have hpl := len_limbsOf_mul V gg
        refine JC_seq ?_
        refine JC_seq ?_
        refine JC_region ?_
        refine JL_loadA (vs := [_]) 8 ty33 rfl rfl ⟨rfl, trivial⟩ ?_
        refine JL_loadA (vs := [_]) 7 ty33 rfl rfl ⟨rfl, trivial⟩ ?_
        refine JL_callF' (Asks.cons (by first | exact holds_of_mem (by repeat (first | with_reducible exact mm0 | refine mmS ?_)) | (exact holds_of_own 6 rfl)) (Asks.cons (by first | exact holds_of_mem (by repeat (first | with_reducible exact mm0 | refine mmS ?_)) | (exact holds_of_own 6 rfl)) Asks.nil)) (rcmp_con _ _ _ _ _ (NIn.of (by omega)) _ _ _ _ _ (NIn.of (by omega))) rfl ca94 ⟨rfl, rfl, rfl⟩ ?_
        rintro _ _ ⟨rfl, rfl⟩
        refine JL_gtr rfl rfl ?_
        refine JL_split (fun h121 => ?_) (fun h121 => ?_)
        · have hlt : P < V * gg := cmpN_pos.1 (by omega)
          have hgp : 0 < gg := Nat.pos_of_ne_zero (fun h0 => by subst h0; omega)
          refine JL_done_up 178 [box _ _ [_], box _ _ [_], box _ _ [_], box _ _ [_], box _ _ [_], box _ _ [_], osl _ _ _ _ _ _, box _ _ [_], box _ _ [_]] [_, _, _, _, _, _, _, _, _, _, _, _, _, _, _, _, _, _, _, _] rfl rfl (by simp only [nrmF]; rfl) rfl rfl ?_
          refine JC_true rfl ?_
          refine JC_skip ?_
          refine JE_then ?_
          refine JC_block ?_
          refine JC_seq ?_
          refine JC_region ?_
          refine JL_loadA (vs := [_]) 8 ty33 rfl rfl ⟨rfl, trivial⟩ ?_
          refine JL_loadA (vs := [_]) 5 ty33 rfl rfl ⟨rfl, trivial⟩ ?_
          refine JL_callF' (Asks.cons (by first | exact holds_of_mem (by repeat (first | with_reducible exact mm0 | refine mmS ?_)) | (exact holds_of_own 6 rfl)) (Asks.cons (by first | exact holds_of_mem (by repeat (first | with_reducible exact mm0 | refine mmS ?_)) | (exact holds_of_own 6 rfl)) Asks.nil)) (rsub_con _ _ _ _ _ (NIn.of (by omega)) _ _ _ _ _ (NIn.of (by omega)) (V * (gg - 1)) (by rw [Nat.mul_sub, Nat.mul_one])) rfl ca97 ⟨rfl, rfl, rfl⟩ ?_
          rintro _ _ ⟨ad125, cap125, rfl, hk125, hm125, rfl⟩
          refine JL_move rfl ?_
          refine JL_extract rfl rfl ?_
          refine JL_extract rfl rfl ?_
          refine JL_store (vs := [_]) 8 ty33 rfl rfl rfl (AllOne.cons rfl AllOne.nil) rfl (Nat.le_of_ble_eq_true rfl) ?_
          refine JL_done_up 178 [box _ _ [_], box _ _ [_], box _ _ [_], box _ _ [_], box _ _ [_], box _ _ [_], osl _ _ _ _ _ _, box _ _ [_], box _ _ [_]] [_, _, _, _, _, _, _, _, _, _, _, _, _, _, _, _, _, _, _, _, _] rfl rfl (by simp only [nrmF]; rfl) rfl rfl ?_
          refine JC_region ?_
          refine JL_move rfl ?_
          refine JL_sub_to rfl rfl (IntWalk.u64_in _ (by omega)) ?_
          rw [show (((gg : Nat) : Int) - 1 : Int) = ((gg - 1 : Nat) : Int) from by omega]
          refine JL_assign rfl ?_
          refine JL_nil_up 178 [box _ _ [_], box _ _ [_], box _ _ [_], box _ _ [_], box _ _ [_], box _ _ [_], osl _ _ _ _ _ _, box _ _ [_], box _ _ [_]] [_, _, _, _, _, _, _, _, _, _, _, _, _, _, _, _, _, _, _, _, _] rfl rfl (by simp only [nrmF]; rfl) rfl rfl ?_
          refine JE_block_normal ?_
          refine JE_nextS (gg - 1, ad125, cap125) (by kernel_rfl) ?_ ?_ (by kernel_rfl) ?_
          · have hdl : P / V < gg := by rw [Nat.div_lt_iff_lt_mul hV0, Nat.mul_comm]; exact hlt
            exact ⟨by omega, by omega⟩
          · first | omega | (dsimp only; omega)
          · exact subset_app (subset_cons (by repeat (first | with_reducible exact mm0 | refine mmS ?_)) subset_nil) (ssS (ssS ss0))
        · have hge : V * gg ≤ P := by have := cmpN_pos (n := V * gg) (m := P); omega
          obtain rfl : gg = P / V := Nat.le_antisymm ((Nat.le_div_iff_mul_le hV0).2 (by rw [Nat.mul_comm]; exact hge)) hgg1
          refine JL_done_up 178 [box _ _ [_], box _ _ [_], box _ _ [_], box _ _ [_], box _ _ [_], box _ _ [_], osl _ _ _ _ _ _, box _ _ [_], box _ _ [_]] [_, _, _, _, _, _, _, _, _, _, _, _, _, _, _, _, _, _, _, _] rfl rfl (by simp only [nrmF]; rfl) rfl rfl ?_
          refine JC_false rfl ?_
          refine JC_exit ?_
          refine JE_then_exit ?_
          refine JE_nextS_exit ?_
          refine JE_block_exit ?_
          refine JE_then ?_
          refine JC_seq ?_
          refine JC_region ?_
          refine JL_loadA (vs := [_]) 7 ty33 rfl rfl ⟨rfl, trivial⟩ ?_
          refine JL_loadA (vs := [_]) 8 ty33 rfl rfl ⟨rfl, trivial⟩ ?_
          refine JL_callF' (Asks.cons (by first | exact holds_of_mem (by repeat (first | with_reducible exact mm0 | refine mmS ?_)) | (exact holds_of_own 6 rfl)) (Asks.cons (by first | exact holds_of_mem (by repeat (first | with_reducible exact mm0 | refine mmS ?_)) | (exact holds_of_own 6 rfl)) Asks.nil)) (rsub_con _ _ _ _ _ (NIn.of (by omega)) _ _ _ _ _ (NIn.of (by omega)) (P - V * (P / V)) rfl) rfl ca97 ⟨rfl, rfl, rfl⟩ ?_
          rintro _ _ ⟨ad133, cap133, rfl, hk133, hm133, rfl⟩
          refine JL_move rfl ?_
          refine JL_extract rfl rfl ?_
          refine JL_extract rfl rfl ?_
          refine JL_store (vs := [_]) 7 ty33 rfl rfl rfl (AllOne.cons rfl AllOne.nil) rfl (Nat.le_of_ble_eq_true rfl) ?_
          refine JL_done_up 178 [box _ _ [_], box _ _ [_], box _ _ [_], box _ _ [_], box _ _ [_], box _ _ [_], osl _ _ _ _ _ _, box _ _ [_], box _ _ [_]] [_, _, _, _, _, _, _, _, _, _, _, _, _, _, _, _, _, _, _, _, _] rfl rfl (by simp only [nrmF]; rfl) rfl rfl ?_
          refine JC_region ?_
          refine JL_move rfl ?_
          refine JL_move rfl ?_
          refine JL_move rfl ?_
          refine JL_convInt us87 it101 rfl (u32_nat _ (Nat.lt_of_le_of_lt hgg9 (by decide))) ?_
          have hlq := hI.hq
          refine JL_idx (jj - 1) sl31 rfl rfl (by omega) (by omega) (Reads.own 6 rfl) (by first | (rw [u32s_length]; omega) | (rw [i64s_length]; omega)) ?_
          refine JL_storeU 6 (P / V) ty101 rfl rfl rfl (by omega) (by omega) ?_
          refine JL_nil_up 178 [box _ _ [_], box _ _ [_], box _ _ [_], box _ _ [_], box _ _ [_], box _ _ [_], osl _ _ _ _ _ _, box _ _ [_], box _ _ [_]] [_, _, _, _, _, _, _, _, _, _, _, _, _, _, _, _, _, _, _, _, _] rfl rfl (by simp only [nrmF]; rfl) rfl rfl ?_
          refine JE_block_normal ?_
          refine JE_then ?_
          refine JC_region ?_
          refine JL_move rfl ?_
          refine JL_sub_to rfl rfl (IntWalk.i64_in _ (by omega)) ?_
          rw [show ((jj : Int) - 1 - 1 : Int) = ((jj - 1 : Nat) : Int) - 1 from by omega]
          refine JL_assign rfl ?_
          refine JL_nil_up 178 [box _ _ [_], box _ _ [_], box _ _ [_], box _ _ [_], box _ _ [_], box _ _ [_], osl _ _ _ _ _ _, box _ _ [_], box _ _ [_]] [_, _, _, _, _, _, _, _, _, _, _, _, _, _, _, _, _, _, _, _, _] rfl rfl (by simp only [nrmF]; rfl) rfl rfl ?_
          refine JE_dropAt 8 ?_
          refine JE_norm _ [box _ _ [_], box _ _ [_], box _ _ [_], box _ _ [_], box _ _ [_], box _ _ [_], osl _ _ _ _ _ _, box _ _ [_]] [_, _, _, _, _, _, _, _, _, _, _, _, _, _, _, _, _, _, _, _, _] rfl rfl rfl ?_
          refine JE_nextS (jj - 1, ad133, (limbsOf (P - V * (P / V))).length, cap133, P - V * (P / V), limbsOf (P - V * (P / V)), q.set (jj - 1) (P / V)) (by kernel_rfl) ?_ ?_ (by kernel_rfl) ?_
          · exact ⟨hI1.put (by omega) hP rfl, rfl, rfl, by omega⟩
          · first | omega | (dsimp only; omega)
          · exact subset_app (subset_cons (by repeat (first | with_reducible exact mm0 | refine mmS ?_)) subset_nil) (ssS (ssS (ssS (ssS (ssS (ssS (ssS (ssS (ssS (ssS ss0))))))))))
      · obtain rfl : jj = 0 := by omega
        refine JL_done_up 178 [box _ _ [_], box _ _ [_], box _ _ [_], box _ _ [_], box _ _ [_], box _ _ [_], osl _ _ _ _ _ _, box _ _ [_]] [_, _, _, _, _, _, _, _, _, _, _, _] rfl rfl (by simp only [nrmF]; rfl) rfl rfl ?_
        refine JC_false rfl ?_
        refine JC_exit ?_
        refine JE_then_exit ?_
        refine JE_nextS_exit ?_
        refine JE_block_exit ?_
        refine JE_then ?_
        refine JC_seq ?_
        refine JC_region ?_
        refine JL_fieldAddr fo33_0 rfl ?_
        refine JL_load 7 ty31 rfl rfl rfl ?_
        refine JL_len sl31 rfl ?_
        refine JL_make1 (limbsOf R).length (limbsOf R).length sl31 rfl rfl rfl rfl (by omega) (by omega) (by omega) (fun g144 => ?_)
        rw [u32s_replicate]
        refine JL_assign rfl ?_
        refine JL_done_up 178 [box _ _ [_], box _ _ [_], box _ _ [_], box _ _ [_], box _ _ [_], box _ _ [_], osl _ _ _ _ _ _, box _ _ [_], osl _ _ _ _ _ _] [_, _, _, _, _, _, _, _, _, _, _, _] rfl rfl (by simp only [nrmF]; rfl) rfl rfl ?_
        refine JC_seq ?_
        refine JC_region ?_
        refine JL_assign rfl ?_
        refine JL_done_up 178 [box _ _ [_], box _ _ [_], box _ _ [_], box _ _ [_], box _ _ [_], box _ _ [_], osl _ _ _ _ _ _, box _ _ [_], osl _ _ _ _ _ _] [_, _, _, _, _, _, _, _, _, _, _, _] rfl rfl (by simp only [nrmF]; rfl) rfl rfl ?_
        refine JC_seq ?_
        refine JC_seq ?_
        refine JC_region ?_
        refine JL_fieldAddr fo33_0 rfl ?_
        refine JL_load 7 ty31 rfl rfl rfl ?_
        refine JL_len sl31 rfl ?_
        refine JL_sub_to rfl rfl (IntWalk.i64_in _ (by omega)) ?_
        refine JL_assign rfl ?_
        refine JL_done_up 178 [box _ _ [_], box _ _ [_], box _ _ [_], box _ _ [_], box _ _ [_], box _ _ [_], osl _ _ _ _ _ _, box _ _ [_], osl _ _ _ _ _ _] [_, _, _, _, _, _, _, _, _, _, _, _] rfl rfl (by simp only [nrmF]; rfl) rfl rfl ?_
        refine JC_block ?_
        refine JC_loopS ((Nat) × (List Nat) × (Nat)) (fun (k, out, r) => k ≤ (limbsOf R).length ∧ out.length = (limbsOf R).length ∧ Dig out ∧ r < sc ∧ val ((limbsOf R).drop k) = sc * val (out.drop k) + r) (fun (k, out, r) => k) (fun u (k, out, r) => [none, none, none, none, none, none, none, none, none, none, none, none, none, none, none, none, none, none, some (.int .u64 (r : Nat)), some (.int .i64 ((k : Nat) - 1)), none, none, none, none, none, none, none, none, none, none, none, none, none, none, none, none, none, none, none, none, none, none, none, none, none, none, none, none, none, none, none, none, none, none, none, none, none, none, none, none, none, none, none, none, none, none, none, none, none, none, none, none, none, none, none, none, none, none, none, none, none, none, none, none, none, none, none, none, none, none, none, none, none, none, none, none, none, none, none, none, none, none, none, none, none, none, none, none, none, none, none, none, none, none, none, none, none, none, none, none, none, none, none, none, none, none, none, none, none, none, none, none, none, none, none, none, none, none, none, none, none, none, none, none, none, none, none, none, none, some (u 149), some (u 150), some (u 151), some (u 152), some (u 153), some (u 154), some (u 155), some (u 156), some (u 157), some (u 158), some (u 159), some (u 160), some (u 161), some (u 162), some (u 163), some (u 164), some (u 165), some (u 166), some (u 167), some (u 168), some (u 169), some (u 170), some (u 171), none, none, none, none, none, none]) (fun (k, out, r) => [none, none, none, none, none, none, none, none, some (osl (some ⟨g144, 0, none⟩) (limbsOf R).length (limbsOf R).length 101 1 (u32s out))]) (fun (k, out, r) => []) ((limbsOf R).length, List.replicate (limbsOf R).length 0, 0) (by kernel_rfl) ?_ (by kernel_rfl) ?_ ?_
        · exact ⟨Nat.le_refl _, List.length_replicate, Dig.replicate _, hs0, by rw [List.drop_length, List.drop_of_length_le (by simp)]; simp [val]⟩
        · exact subset_nil
        intro u i hC
        obtain ⟨k, out, r⟩ := i
        obtain ⟨hk, ho, hd, hr, hv⟩ := hC
        refine JC_norm ⟨178, [], [_, _, _, _, _, _, _, _, _, _, _, _, _, _, _, _, _, _, _, _, _, _, _, _, _, _, _, _, _, _, _, _, _, _, _, _, _, _, _, _, _, _, _, _, _, _, _, _, _, _, _, _, _, _, _, _, _, _, _, _, _, _, _, _, _, _, _, _, _, _, _, _, _, _, _, _, _, _, _, _, _, _, _, _, _, _, _, _, _, _, _, _, _, _, _, _, _, _, _, _, _, _, _, _, _, _, _, _, _, _, _, _, _, _, _, _, _, _, _, _, _, _, _, _, _, _, _, _, _, _, _, _, _, _, _, _, _, _, _, _, _, _, _, _, _, _, _, _, _, _, _, _, _, _, _, _, _, _, _, _, _, _, _, _, _, _, _, _, _, _, _, _, _, _, _, _, _, _]⟩ [box _ _ [_], box _ _ [_], box _ _ [_], box _ _ [_], box _ _ [_], box _ _ [_], osl _ _ _ _ _ _, box _ _ [_], osl _ _ _ _ _ _] [_, _, _, _, _, _, _, _, _, _, _, _] rfl rfl rfl ?_
        have hX := (dig_limbsOf R).getD (k - 1)
        refine JC_seq ?_
        refine JC_seq ?_
        refine JC_region ?_
        refine JL_move rfl ?_
        refine JL_geq rfl rfl ?_
        refine JL_split (fun h150 => ?_) (fun h150 => ?_)
        · refine JL_done_up 178 [box _ _ [_], box _ _ [_], box _ _ [_], box _ _ [_], box _ _ [_], box _ _ [_], osl _ _ _ _ _ _, box _ _ [_], osl _ _ _ _ _ _] [_, _, _, _, _, _, _, _, _, _, _, _] rfl rfl (by simp only [nrmF]; rfl) rfl rfl ?_
          refine JC_true rfl ?_
          refine JC_skip ?_
          refine JE_then ?_
          refine JC_seq ?_
          refine JC_block ?_
          refine JC_seq ?_
          refine JC_region ?_
          refine JL_move rfl ?_
          refine JL_mul_to rfl rfl (IntWalk.u64_in _ (by omega)) ?_
          refine JL_fieldAddr fo33_0 rfl ?_
          refine JL_load 7 ty31 rfl rfl rfl ?_
          refine JL_move rfl ?_
          have hq := short_lt hr hX
          refine JL_idx (k - 1) sl31 rfl rfl (by omega) (by omega) (by first | exact Reads.view (by repeat (first | with_reducible exact mm0 | refine mmS ?_)) | (exact Reads.own 6 rfl) | (exact Reads.own 8 rfl)) (by first | (rw [u32s_length]; omega) | (rw [i64s_length]; omega)) ?_
          refine JL_loadE ty101 rfl (by first | exact Reads.view (by repeat (first | with_reducible exact mm0 | refine mmS ?_)) | (exact Reads.own 6 rfl) | (exact Reads.own 8 rfl)) (u32s_get (by omega)) ?_
          refine JL_convInt us101 it87 rfl (IntWalk.u64_in _ (by omega)) ?_
          refine JL_add_to rfl rfl (IntWalk.u64_in _ (by omega)) ?_
          rw [show (((r : Nat) : Int) * 1000000000 + (((limbsOf R).getD (k - 1) 0 : Nat) : Int) : Int) = ((r * 1000000000 + (limbsOf R).getD (k - 1) 0 : Nat) : Int) from by omega]
          refine JL_assign rfl ?_
          refine JL_done_up 178 [box _ _ [_], box _ _ [_], box _ _ [_], box _ _ [_], box _ _ [_], box _ _ [_], osl _ _ _ _ _ _, box _ _ [_], osl _ _ _ _ _ _] [_, _, _, _, _, _, _, _, _, _, _, _] rfl rfl (by simp only [nrmF]; rfl) rfl rfl ?_
          refine JC_seq ?_
          refine JC_region ?_
          refine JL_move rfl ?_
          refine JL_move rfl ?_
          refine JL_move rfl ?_
          refine JL_move rfl ?_
          refine JL_quo_to rfl rfl (by omega) (quo_nat_u64 _ _ (by omega)) ?_
          refine JL_convInt us87 it101 rfl (u32_nat _ (Nat.lt_of_lt_of_le hq (by decide))) ?_
          refine JL_idx (k - 1) sl31 rfl rfl (by omega) (by omega) (Reads.own 8 rfl) (by first | (rw [u32s_length]; omega) | (rw [i64s_length]; omega)) ?_
          refine JL_storeU 8 ((r * 1000000000 + (limbsOf R).getD (k - 1) 0) / sc) ty101 rfl rfl rfl (by omega) (by omega) ?_
          refine JL_done_up 178 [box _ _ [_], box _ _ [_], box _ _ [_], box _ _ [_], box _ _ [_], box _ _ [_], osl _ _ _ _ _ _, box _ _ [_], osl _ _ _ _ _ _] [_, _, _, _, _, _, _, _, _, _, _, _] rfl rfl (by simp only [nrmF]; rfl) rfl rfl ?_
          refine JC_region ?_
          refine JL_move rfl ?_
          refine JL_move rfl ?_
          refine JL_rem_to rfl rfl (by omega) (rem_nat _ _) ?_
          refine JL_assign rfl ?_
          refine JL_nil_up 178 [box _ _ [_], box _ _ [_], box _ _ [_], box _ _ [_], box _ _ [_], box _ _ [_], osl _ _ _ _ _ _, box _ _ [_], osl _ _ _ _ _ _] [_, _, _, _, _, _, _, _, _, _, _, _] rfl rfl (by simp only [nrmF]; rfl) rfl rfl ?_
          refine JE_block_normal ?_
          refine JE_then ?_
          refine JC_region ?_
          refine JL_move rfl ?_
          refine JL_sub_to rfl rfl (IntWalk.i64_in _ (by omega)) ?_
          rw [show ((k : Int) - 1 - 1 : Int) = ((k - 1 : Nat) : Int) - 1 from by omega]
          refine JL_assign rfl ?_
          refine JL_nil_up 178 [box _ _ [_], box _ _ [_], box _ _ [_], box _ _ [_], box _ _ [_], box _ _ [_], osl _ _ _ _ _ _, box _ _ [_], osl _ _ _ _ _ _] [_, _, _, _, _, _, _, _, _, _, _, _] rfl rfl (by simp only [nrmF]; rfl) rfl rfl ?_
          refine JE_nextS (k - 1, out.set (k - 1) ((r * 1000000000 + (limbsOf R).getD (k - 1) 0) / sc), (r * 1000000000 + (limbsOf R).getD (k - 1) 0) % sc) (by kernel_rfl) ?_ ?_ (by kernel_rfl) ?_
          · exact ⟨by omega, by rw [List.length_set]; omega, hd.set _ _ hq, Nat.mod_lt _ hs0, short_step (by omega) ho (by rw [Nat.sub_add_cancel (by omega)]; exact hv) hs0 rfl⟩
          · first | omega | (dsimp only; omega)
          · exact subset_app subset_nil ss0
        · refine JL_done_up 178 [box _ _ [_], box _ _ [_], box _ _ [_], box _ _ [_], box _ _ [_], box _ _ [_], osl _ _ _ _ _ _, box _ _ [_], osl _ _ _ _ _ _] [_, _, _, _, _, _, _, _, _, _, _, _] rfl rfl (by simp only [nrmF]; rfl) rfl rfl ?_
          refine JC_false rfl ?_
          refine JC_exit ?_
          refine JE_then_exit ?_
          refine JE_nextS_exit ?_
          refine JE_block_exit ?_
          refine JE_then ?_
          refine JC_seq ?_
          refine JC_region ?_
          refine JL_move rfl ?_
          refine JL_build (cs := [_]) [(0, [_])] st33 ⟨⟨rfl, _, rfl, rfl⟩, rfl⟩ rfl ?_
          refine JL_callF' (Asks.cons (by first | exact holds_of_mem (by repeat (first | with_reducible exact mm0 | refine mmS ?_)) | (exact holds_of_own 6 rfl) | (exact holds_of_own 8 rfl)) Asks.nil) (rnorm_con _ _ _ _ (x1 / x2) ⟨hI.hq, U32.ofDig hI.dq, by rw [hI.done.1, ← hN, ← hV, mul_div_scale hs0], by omega⟩) rfl ca95 ⟨rfl, rfl⟩ ?_
          rintro _ _ ⟨ad174, cap174, rfl, hk174, hm174, rfl⟩
          refine JL_move rfl ?_
          refine JL_build (cs := [_]) [(0, [_])] st33 ⟨⟨rfl, _, rfl, rfl⟩, rfl⟩ rfl ?_
          refine JL_callF' (Asks.cons (by first | exact holds_of_mem (by repeat (first | with_reducible exact mm0 | refine mmS ?_)) | (exact holds_of_own 6 rfl) | (exact holds_of_own 8 rfl)) Asks.nil) (rnorm_con _ _ _ _ (x1 % x2) ⟨ho, U32.ofDig hd, by rw [short_val (k := k) (by omega) (val_limbsOf R) hv hr, hI.done.2, ← hN, ← hV, mul_mod_scale hs0], by omega⟩) rfl ca95 ⟨rfl, rfl⟩ ?_
          rintro _ _ ⟨ad177, cap177, rfl, hk177, hm177, rfl⟩
          refine JL_store (vs := [_]) 2 ty33 rfl rfl rfl (AllOne.cons rfl AllOne.nil) rfl (Nat.le_of_ble_eq_true rfl) ?_
          refine JL_store (vs := [_]) 3 ty33 rfl rfl rfl (AllOne.cons rfl AllOne.nil) rfl (Nat.le_of_ble_eq_true rfl) ?_
          refine JL_assign rfl ?_
          refine JL_done_up 178 [box _ _ [_], box _ _ [_], box _ _ [_], box _ _ [_], box _ _ [_], box _ _ [_], osl _ _ _ _ _ _, box _ _ [_], osl _ _ _ _ _ _] [_, _, _, _, _, _, _, _, _, _, _, _, _, _] rfl rfl (by simp only [nrmF]; rfl) rfl rfl ?_
          refine JC_ret ?_
          refine JE_ret (vs := [_, _, _]) [vCells ad174 (u32s (limbsOf (x1 / x2))), vCells ad177 (u32s (limbsOf (x1 % x2)))] Tryd.results79 ⟨RV.cell (vs := [_]) 2 ty33 rfl rfl ⟨rfl, trivial⟩, RV.cell (vs := [_]) 3 ty33 rfl rfl ⟨rfl, trivial⟩, rfl, rfl⟩ ?_ ?_
          · exact ⟨ad174, cap174, ad177, cap177, rfl, hk174, hm174, hk177, hm177, rfl⟩
          · exact (all_cons (by repeat (first | with_reducible exact mm0 | refine mmS ?_)) (all_cons (by repeat (first | with_reducible exact mm0 | refine mmS ?_)) all_nil))

theorem rgcd_con (ad1 : Option Addr) (n1 c1 : Nat) (L1 : List Nat) (x1 : Nat) (g1 : NIn n1 L1 x1 100000000) (ad2 : Option Addr) (n2 c2 : Nat) (L2 : List Nat) (x2 : Nat) (g2 : NIn n2 L2 x2 100000000) :
    ConF Tryd.prog 78 [.agg #[.slice ad1 n1 c1], .agg #[.slice ad2 n2 c2]] [vCells ad1 (u32s L1), vCells ad2 (u32s L2)]
      (LN (Nat.gcd x1 x2)) := by
  have hs1 := g1.sz
  have hl1 := g1.le
  have hs2 := g2.sz
  have hl2 := g2.le
  refine ConF_of Tryd.func78 rfl 26 _ rfl rfl ?_
  intro w0
  refine JC_norm ⟨26, [], [_, _, _, _, _, _, _, _, _, _, _, _, _, _, _, _, _, _, _, _, _, _, _, _, _, _]⟩ [] [_, _] rfl rfl rfl ?_
  refine JC_seq ?_
  refine JC_region ?_
  refine JL_box rfl rfl (fun b2 => ?_)
  refine JL_box rfl rfl (fun b3 => ?_)
  refine JL_alloc z33 (fun b4 => ?_)
  refine JL_done_up 26 [box _ _ [_], box _ _ [_], box _ _ [_]] [_, _] rfl rfl (by simp only [nrmF]; rfl) rfl rfl ?_
  refine JC_seq ?_
  refine JC_region ?_
  refine JL_loadA (vs := [_]) 0 ty33 rfl rfl ⟨rfl, trivial⟩ ?_
  refine JL_callF' (Asks.cons (holds_of_mem (by repeat (first | with_reducible exact mm0 | refine mmS ?_))) Asks.nil) (rnorm_con _ _ _ _ _ (g1.mono (by omega))) rfl ca95 ⟨rfl, rfl⟩ ?_
  rintro _ _ ⟨ad9, cap9, rfl, hk9, hm9, rfl⟩
  refine JL_store (vs := [_]) 0 ty33 rfl rfl rfl (AllOne.cons rfl AllOne.nil) rfl (Nat.le_of_ble_eq_true rfl) ?_
  refine JL_done_up 26 [box _ _ [_], box _ _ [_], box _ _ [_]] [_, _, _] rfl rfl (by simp only [nrmF]; rfl) rfl rfl ?_
  refine JC_seq ?_
  refine JC_region ?_
  refine JL_loadA (vs := [_]) 1 ty33 rfl rfl ⟨rfl, trivial⟩ ?_
  refine JL_callF' (Asks.cons (holds_of_mem (by repeat (first | with_reducible exact mm0 | refine mmS ?_))) Asks.nil) (rnorm_con _ _ _ _ _ (g2.mono (by omega))) rfl ca95 ⟨rfl, rfl⟩ ?_
  rintro _ _ ⟨ad11, cap11, rfl, hk11, hm11, rfl⟩
  refine JL_store (vs := [_]) 1 ty33 rfl rfl rfl (AllOne.cons rfl AllOne.nil) rfl (Nat.le_of_ble_eq_true rfl) ?_
  refine JL_done_up 26 [box _ _ [_], box _ _ [_], box _ _ [_]] [_, _, _, _] rfl rfl (by simp only [nrmF]; rfl) rfl rfl ?_
  refine JC_seq ?_
  refine JC_block ?_
  refine JC_loopS ((Option Addr) × (Nat) × (Nat) × (Option Addr) × (Nat) × (Nat)) (fun (a1, k1, x, a2, k2, y) => Nat.gcd x y = Nat.gcd x1 x2 ∧ (limbsOf x).length ≤ k1 ∧ k1 ≤ 9223372036854775807 ∧ (limbsOf y).length ≤ k2 ∧ k2 ≤ 9223372036854775807 ∧ (limbsOf x).length ≤ 100000001 ∧ (limbsOf y).length ≤ 100000001) (fun (a1, k1, x, a2, k2, y) => y) (fun u (a1, k1, x, a2, k2, y) => [none, none, none, none, none, some (u 5), some (u 6), some (u 7), none, none, none, none, some (u 12), some (u 13), some (u 14), some (u 15), some (u 16), some (u 17), some (u 18), some (u 19), some (u 20), some (u 21), some (u 22), some (u 23), some (u 24), none]) (fun (a1, k1, x, a2, k2, y) => [some (box b2 33 [.slice a1 (limbsOf x).length k1]), some (box b3 33 [.slice a2 (limbsOf y).length k2]), none]) (fun (a1, k1, x, a2, k2, y) => [(true, vCells a1 (u32s (limbsOf x))), (true, vCells a2 (u32s (limbsOf y)))]) (ad9, cap9, x1, ad11, cap11, x2) (by kernel_rfl) ?_ (by kernel_rfl) ?_ ?_
  · exact ⟨rfl, hk9, hm9, hk11, hm11, by omega, by omega⟩
  · exact (subset_cons (by repeat (first | with_reducible exact mm0 | refine mmS ?_)) (subset_cons (by repeat (first | with_reducible exact mm0 | refine mmS ?_)) subset_nil))
  intro u i hC
  obtain ⟨a1, k1, x, a2, k2, y⟩ := i
  obtain ⟨hg, hk1, hm1, hk2, hm2, hb1, hb2⟩ := hC
  refine JC_norm ⟨26, [], [_, _, _, _, _, _, _, _, _, _, _, _, _, _, _, _, _, _, _, _, _, _, _, _, _, _]⟩ [box _ _ [_], box _ _ [_], box _ _ [_]] [_, _, _, _, _, _] rfl rfl rfl ?_
  refine JC_seq ?_
  refine JC_seq ?_
  refine JC_region ?_
  refine JL_fieldAddr fo33_0 rfl ?_
  refine JL_load 1 ty31 rfl rfl rfl ?_
  refine JL_len sl31 rfl ?_
  refine JL_gtr rfl rfl ?_
  refine JL_split (fun h15 => ?_) (fun h15 => ?_)
  · have hy0 : 0 < y := limbs_pos (by omega)
    have hml := len_limbsOf_le (Nat.le_of_lt (Nat.mod_lt x hy0))
    refine JL_done_up 26 [box _ _ [_], box _ _ [_], box _ _ [_]] [_, _, _, _, _, _] rfl rfl (by simp only [nrmF]; rfl) rfl rfl ?_
    refine JC_true rfl ?_
    refine JC_skip ?_
    refine JE_then ?_
    refine JC_block ?_
    refine JC_seq ?_
    refine JC_region ?_
    refine JL_loadA (vs := [_]) 0 ty33 rfl rfl ⟨rfl, trivial⟩ ?_
    refine JL_loadA (vs := [_]) 1 ty33 rfl rfl ⟨rfl, trivial⟩ ?_
    refine JL_callF' (Asks.cons (holds_of_mem (by repeat (first | with_reducible exact mm0 | refine mmS ?_))) (Asks.cons (holds_of_mem (by repeat (first | with_reducible exact mm0 | refine mmS ?_))) Asks.nil)) (rdivmod_con _ _ _ _ _ (NIn.of (by omega)) _ _ _ _ _ (NIn.of (by omega)) hy0) rfl ca79 ⟨rfl, rfl, rfl⟩ ?_
    rintro _ _ ⟨ad19, cap19, ae19, caq19, rfl, hk19, hm19, hkq19, hmq19, rfl⟩
    refine JL_move rfl ?_
    refine JL_extract rfl rfl ?_
    refine JL_extract rfl rfl ?_
    refine JL_extract rfl rfl ?_
    refine JL_alloc z33 (fun b5 => ?_)
    refine JL_alloc z33 (fun b6 => ?_)
    refine JL_store (vs := [_]) 3 ty33 rfl rfl rfl (AllOne.cons rfl AllOne.nil) rfl (Nat.le_of_ble_eq_true rfl) ?_
    refine JL_store (vs := [_]) 4 ty33 rfl rfl rfl (AllOne.cons rfl AllOne.nil) rfl (Nat.le_of_ble_eq_true rfl) ?_
    refine JL_assign rfl ?_
    refine JL_done_up 26 [box _ _ [_], box _ _ [_], box _ _ [_], box _ _ [_], box _ _ [_]] [_, _, _, _, _, _, _, _] rfl rfl (by simp only [nrmF]; rfl) rfl rfl ?_
    refine JC_seq ?_
    refine JC_region ?_
    refine JL_loadA (vs := [_]) 1 ty33 rfl rfl ⟨rfl, trivial⟩ ?_
    refine JL_store (vs := [_]) 0 ty33 rfl rfl rfl (AllOne.cons rfl AllOne.nil) rfl (Nat.le_of_ble_eq_true rfl) ?_
    refine JL_done_up 26 [box _ _ [_], box _ _ [_], box _ _ [_], box _ _ [_], box _ _ [_]] [_, _, _, _, _, _, _, _] rfl rfl (by simp only [nrmF]; rfl) rfl rfl ?_
    refine JC_region ?_
    refine JL_loadA (vs := [_]) 4 ty33 rfl rfl ⟨rfl, trivial⟩ ?_
    refine JL_store (vs := [_]) 1 ty33 rfl rfl rfl (AllOne.cons rfl AllOne.nil) rfl (Nat.le_of_ble_eq_true rfl) ?_
    refine JL_nil_up 26 [box _ _ [_], box _ _ [_], box _ _ [_], box _ _ [_], box _ _ [_]] [_, _, _, _, _, _, _, _] rfl rfl (by simp only [nrmF]; rfl) rfl rfl ?_
    refine JE_block_normal ?_
    refine JE_dropAt 4 ?_
    refine JE_norm _ [box _ _ [_], box _ _ [_], box _ _ [_], box _ _ [_]] [_, _, _, _, _, _, _, _] rfl rfl rfl ?_
    refine JE_dropAt 3 ?_
    refine JE_norm _ [box _ _ [_], box _ _ [_], box _ _ [_]] [_, _, _, _, _, _, _, _] rfl rfl rfl ?_
    refine JE_nextS (a2, k2, y, ae19, caq19, x % y) (by kernel_rfl) ?_ ?_ (by kernel_rfl) ?_
    · exact ⟨by rw [← hg, Nat.gcd_comm y, ← Nat.gcd_rec, Nat.gcd_comm], hk2, hm2, hkq19, hmq19, hb2, by omega⟩
    · exact Nat.mod_lt x hy0
    · exact subset_app (subset_cons (by repeat (first | with_reducible exact mm0 | refine mmS ?_)) (subset_cons (by repeat (first | with_reducible exact mm0 | refine mmS ?_)) subset_nil)) (ssS (ssS (ssS (ssS ss0))))
  · have hy0 : y = 0 := limbs_zero (by omega)
    have hgx : x = Nat.gcd x1 x2 := by rw [← hg, hy0, Nat.gcd_zero_right]
    refine JL_done_up 26 [box _ _ [_], box _ _ [_], box _ _ [_]] [_, _, _, _, _, _] rfl rfl (by simp only [nrmF]; rfl) rfl rfl ?_
    refine JC_false rfl ?_
    refine JC_exit ?_
    refine JE_then_exit ?_
    refine JE_nextS_exit ?_
    refine JE_block_exit ?_
    refine JE_then ?_
    refine JC_seq ?_
    refine JC_region ?_
    refine JL_loadA (vs := [_]) 0 ty33 rfl rfl ⟨rfl, trivial⟩ ?_
    refine JL_store (vs := [_]) 2 ty33 rfl rfl rfl (AllOne.cons rfl AllOne.nil) rfl (Nat.le_of_ble_eq_true rfl) ?_
    refine JL_done_up 26 [box _ _ [_], box _ _ [_], box _ _ [_]] [_, _, _, _, _, _] rfl rfl (by simp only [nrmF]; rfl) rfl rfl ?_
    refine JC_ret ?_
    refine JE_ret (vs := [_]) [vCells a1 (u32s (limbsOf x))] Tryd.results78 ⟨RV.cell (vs := [_]) 2 ty33 rfl rfl ⟨rfl, trivial⟩, rfl⟩ ?_ ?_
    · exact ⟨a1, k1, by rw [← hgx]; rfl, by rw [← hgx]; exact hk1, hm1, by rw [← hgx]⟩
    · exact (all_cons (by repeat (first | with_reducible exact mm0 | refine mmS ?_)) all_nil)

end Go.Fw.K
