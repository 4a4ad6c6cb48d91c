/- Walks through functions of the given program: each meets its contract. (Printed by a program of this repo.) -/
import Derived.Test.YtgfldmhpindbpaaDoorW1
import Derived.Test.YtgfldmhpindbpaaDoorProg
namespace Go.Fw.W3
open Go Go.RowKit Go.Proofs Go.Nat9 Go.Fw
attribute [local irreducible] JC JL JE
theorem ca48 : callable Tryd.prog 48 = true := by kernel_rfl
theorem ca59 : callable Tryd.prog 59 = true := by kernel_rfl
theorem it78 : intTy Tryd.prog 78 = some .u64 := by kernel_rfl
theorem it86 : intTy Tryd.prog 86 = some .u32 := by kernel_rfl
theorem sl32 : slOf Tryd.prog 32 = some (86, 1, 4, [.int .u32 0]) := by kernel_rfl
theorem ty34 : tyOf Tryd.prog 34 = some (true, 1) := by kernel_rfl
theorem ty86 : tyOf Tryd.prog 86 = some (false, 1) := by kernel_rfl
theorem us78 : (Tryd.prog.underlying 78).isSome = true := by kernel_rfl
theorem us86 : (Tryd.prog.underlying 86).isSome = true := by kernel_rfl
theorem z34 : zeroOf Tryd.prog 34 = some [.slice none 0 0] := by kernel_rfl
end Go.Fw.W3
namespace Go.Fw.K
open Go Go.RowKit Go.Proofs Go.Nat9 Go.Fw Go.Fw.W3
attribute [local irreducible] JC JL JE

theorem times_con (ad1 : Option Addr) (n1 c1 : Nat) (ad2 : Option Addr) (n2 c2 : Nat) (A C : List Nat) (x y : Nat) (z : Nat) (hz : x * y = z) (gA : DIn n1 A x) (gC : DIn n2 C y) (hb : n1 ≤ 1000000000) (hb2 : n2 ≤ 1000000000) :
    ConF Tryd.prog 49 [.slice ad1 n1 c1, .slice ad2 n2 c2] [vCells ad1 (u32s A), vCells ad2 (u32s C)]
      (LS z) := by
  subst hz
  obtain ⟨rfl, dA, hxA⟩ := gA
  obtain ⟨rfl, dC, hyC⟩ := gC
  refine ConF_of Tryd.func49 rfl 68 _ rfl rfl ?_
  intro w0
  refine JC_norm ⟨68, [], [_, _, _, _, _, _, _, _, _, _, _, _, _, _, _, _, _, _, _, _, _, _, _, _, _, _, _, _, _, _, _, _, _, _, _, _, _, _, _, _, _, _, _, _, _, _, _, _, _, _, _, _, _, _, _, _, _, _, _, _, _, _, _, _, _, _, _, _]⟩ [] [_, _] rfl rfl rfl ?_
  refine JC_seq ?_
  refine JC_region ?_
  refine JL_assign rfl ?_
  refine JL_done_up 68 [] [_, _] rfl rfl (by simp only [nrmF]; rfl) rfl rfl ?_
  refine JC_seq ?_
  refine JC_region ?_
  refine JL_move rfl ?_
  refine JL_len sl32 rfl ?_
  refine JL_move rfl ?_
  refine JL_len sl32 rfl ?_
  refine JL_add_to rfl rfl (IntWalk.i64_in _ (by omega)) ?_
  refine JL_make1 (A.length + C.length) (A.length + C.length) sl32 rfl rfl (by omega) (by omega) (by omega) (by omega) (by omega) (fun g16 => ?_)
  rw [u32s_replicate]
  refine JL_assign rfl ?_
  refine JL_done_up 68 [osl _ _ _ _ _ _] [_, _] rfl rfl (by simp only [nrmF]; rfl) rfl rfl ?_
  refine JC_seq ?_
  refine JC_seq ?_
  refine JC_region ?_
  refine JL_move rfl ?_
  refine JL_len sl32 rfl ?_
  refine JL_move rfl ?_
  refine JL_done_up 68 [osl _ _ _ _ _ _] [_, _] rfl rfl (by simp only [nrmF]; rfl) rfl rfl ?_
  refine JC_block ?_
  refine JC_loopS ((Nat) × (List Nat)) (fun (i, out) => i ≤ A.length ∧ out.length = A.length + C.length ∧ Dig out ∧ val out = val (A.take i) * val C ∧ ∀ l, i + C.length ≤ l → out.getD l 0 = 0) (fun (i, out) => A.length - i) (fun u (i, out) => [none, none, none, none, none, none, some (u 6), some (u 7), some (u 8), some (u 9), some (u 10), none, none, none, none, none, none, none, none, some (.int .i64 (i : Nat)), some (u 20), some (u 21), some (u 22), some (u 23), some (u 24), some (u 25), some (u 26), some (u 27), some (u 28), some (u 29), some (u 30), some (u 31), some (u 32), some (u 33), some (u 34), some (u 35), some (u 36), some (u 37), some (u 38), some (u 39), some (u 40), some (u 41), some (u 42), some (u 43), some (u 44), some (u 45), some (u 46), some (u 47), some (u 48), some (u 49), some (u 50), some (u 51), some (u 52), some (u 53), some (u 54), some (u 55), some (u 56), some (u 57), some (u 58), some (u 59), some (u 60), some (u 61), some (u 62), some (u 63), some (u 64), some (u 65), none, none]) (fun (i, out) => [some (osl (some ⟨g16, 0, none⟩) (A.length + C.length) (A.length + C.length) 86 1 (u32s out))]) (fun (i, out) => []) (0, List.replicate (A.length + C.length) 0) (by kernel_rfl) ?_ (by kernel_rfl) ?_ ?_
  · exact ⟨Nat.zero_le _, List.length_replicate, Dig.replicate _, by rw [val_replicate]; simp [val], fun l _ => getD_replicate _ l⟩
  · exact subset_nil
  intro u i hC
  obtain ⟨i, out⟩ := i
  obtain ⟨hi, ho, hd, hv, hz⟩ := hC
  refine JC_norm ⟨68, [], [_, _, _, _, _, _, _, _, _, _, _, _, _, _, _, _, _, _, _, _, _, _, _, _, _, _, _, _, _, _, _, _, _, _, _, _, _, _, _, _, _, _, _, _, _, _, _, _, _, _, _, _, _, _, _, _, _, _, _, _, _, _, _, _, _, _, _, _]⟩ [osl _ _ _ _ _ _] [_, _] rfl rfl rfl ?_
  have hX := dA.getD i
  refine JC_seq ?_
  refine JC_region ?_
  refine JL_lss rfl rfl ?_
  refine JL_split (fun h20 => ?_) (fun h20 => ?_)
  · refine JL_done_up 68 [osl _ _ _ _ _ _] [_, _] rfl rfl (by simp only [nrmF]; rfl) rfl rfl ?_
    refine JC_seq ?_
    refine JC_true rfl ?_
    refine JC_skip ?_
    refine JE_then ?_
    refine JC_seq ?_
    refine JC_block ?_
    refine JC_seq ?_
    refine JC_region ?_
    refine JL_move rfl ?_
    refine JL_idx i sl32 rfl rfl rfl (by omega) (Reads.view List.mem_cons_self) (by first | (rw [u32s_length]; omega) | (rw [i64s_length]; omega)) ?_
    refine JL_loadE ty86 rfl (Reads.view List.mem_cons_self) (u32s_get (by omega)) ?_
    refine JL_assign rfl ?_
    refine JL_assign rfl ?_
    refine JL_done_up 68 [osl _ _ _ _ _ _] [_, _] rfl rfl (by simp only [nrmF]; rfl) rfl rfl ?_
    refine JC_seq ?_
    refine JC_region ?_
    refine JL_assign rfl ?_
    refine JL_done_up 68 [osl _ _ _ _ _ _] [_, _] rfl rfl (by simp only [nrmF]; rfl) rfl rfl ?_
    refine JC_seq ?_
    refine JC_seq ?_
    refine JC_region ?_
    refine JL_move rfl ?_
    refine JL_len sl32 rfl ?_
    refine JL_move rfl ?_
    refine JL_done_up 68 [osl _ _ _ _ _ _] [_, _] rfl rfl (by simp only [nrmF]; rfl) rfl rfl ?_
    refine JC_block ?_
    refine JC_loopS ((Nat) × (List Nat) × (Nat)) (fun (j, o2, c) => j ≤ C.length ∧ o2.length = A.length + C.length ∧ Dig o2 ∧ c < 1000000000 ∧ val o2 + 1000000000 ^ (i + j) * c = val (A.take i) * val C + 1000000000 ^ i * (A.getD i 0 * val (C.take j)) ∧ ∀ l, i + C.length ≤ l → o2.getD l 0 = 0) (fun (j, o2, c) => C.length - j) (fun u (j, o2, c) => [none, none, none, none, none, none, none, none, some (.int .u64 (c : Nat)), some (u 9), some (u 10), none, none, none, none, none, none, none, none, none, none, none, none, none, none, none, some (.int .i64 (j : Nat)), some (u 27), some (u 28), some (u 29), some (u 30), some (u 31), some (u 32), some (u 33), some (u 34), some (u 35), some (u 36), some (u 37), some (u 38), some (u 39), some (u 40), some (u 41), some (u 42), some (u 43), some (u 44), some (u 45), some (u 46), some (u 47), some (u 48), some (u 49), some (u 50), some (u 51), some (u 52), some (u 53), some (u 54), some (u 55), some (u 56), none, none, none, none, none, none, none, none, none, none, none]) (fun (j, o2, c) => [some (osl (some ⟨g16, 0, none⟩) (A.length + C.length) (A.length + C.length) 86 1 (u32s o2))]) (fun (j, o2, c) => []) (0, out, 0) (by kernel_rfl) ?_ (by kernel_rfl) ?_ ?_
    · exact ⟨Nat.zero_le _, ho, hd, by omega, by rw [hv]; simp [val], hz⟩
    · exact subset_nil
    intro u i hC
    obtain ⟨j, o2, c⟩ := i
    obtain ⟨hj, ho2, hd2, hc, hv2, hz2⟩ := hC
    refine JC_norm ⟨68, [], [_, _, _, _, _, _, _, _, _, _, _, _, _, _, _, _, _, _, _, _, _, _, _, _, _, _, _, _, _, _, _, _, _, _, _, _, _, _, _, _, _, _, _, _, _, _, _, _, _, _, _, _, _, _, _, _, _, _, _, _, _, _, _, _, _, _, _, _]⟩ [osl _ _ _ _ _ _] [_, _] rfl rfl rfl ?_
    have hY := dC.getD j
    have hO := hd2.getD (i + j)
    have hxy : A.getD i 0 * C.getD j 0 ≤ 999999999 * 999999999 := Nat.mul_le_mul (by omega) (by omega)
    have hct := times_carry hX hY hO hc
    refine JC_seq ?_
    refine JC_region ?_
    refine JL_lss rfl rfl ?_
    refine JL_split (fun h27 => ?_) (fun h27 => ?_)
    · refine JL_done_up 68 [osl _ _ _ _ _ _] [_, _] rfl rfl (by simp only [nrmF]; rfl) rfl rfl ?_
      refine JC_seq ?_
      refine JC_true rfl ?_
      refine JC_skip ?_
      refine JE_then ?_
      refine JC_seq ?_
      refine JC_block ?_
      refine JC_seq ?_
      refine JC_region ?_
      refine JL_move rfl ?_
      refine JL_idx j sl32 rfl rfl rfl (by omega) (Reads.view (List.mem_cons_of_mem _ List.mem_cons_self)) (by first | (rw [u32s_length]; omega) | (rw [i64s_length]; omega)) ?_
      refine JL_loadE ty86 rfl (Reads.view (List.mem_cons_of_mem _ List.mem_cons_self)) (u32s_get (by omega)) ?_
      refine JL_assign rfl ?_
      refine JL_assign rfl ?_
      refine JL_done_up 68 [osl _ _ _ _ _ _] [_, _] rfl rfl (by simp only [nrmF]; rfl) rfl rfl ?_
      refine JC_seq ?_
      refine JC_region ?_
      refine JL_move rfl ?_
      refine JL_move rfl ?_
      refine JL_convInt us86 it78 rfl (IntWalk.u64_in _ (by omega)) ?_
      refine JL_move rfl ?_
      refine JL_convInt us86 it78 rfl (IntWalk.u64_in _ (by omega)) ?_
      refine JL_mul_to rfl rfl (IntWalk.u64_in _ (by rw [← Int.natCast_mul]; omega)) ?_
      rw [show (((A.getD i 0 : Nat) : Int) * ((C.getD j 0 : Nat) : Int) : Int) = ((A.getD i 0 * C.getD j 0 : Nat) : Int) from (Int.natCast_mul _ _).symm]
      refine JL_move rfl ?_
      refine JL_move rfl ?_
      refine JL_move rfl ?_
      refine JL_add_to rfl rfl (IntWalk.i64_in _ (by omega)) ?_
      refine JL_idx (i + j) sl32 rfl rfl rfl (by omega) (Reads.own 0 rfl) (by first | (rw [u32s_length]; omega) | (rw [i64s_length]; omega)) ?_
      refine JL_loadE ty86 rfl (Reads.own 0 rfl) (u32s_get (by omega)) ?_
      refine JL_convInt us86 it78 rfl (IntWalk.u64_in _ (by omega)) ?_
      refine JL_add_to rfl rfl (IntWalk.u64_in _ (by omega)) ?_
      refine JL_add_to rfl rfl (IntWalk.u64_in _ (by omega)) ?_
      refine JL_assign rfl ?_
      refine JL_done_up 68 [osl _ _ _ _ _ _] [_, _] rfl rfl (by simp only [nrmF]; rfl) rfl rfl ?_
      refine JC_seq ?_
      refine JC_region ?_
      refine JL_move rfl ?_
      refine JL_move rfl ?_
      refine JL_move rfl ?_
      refine JL_add_to rfl rfl (IntWalk.i64_in _ (by omega)) ?_
      refine JL_move rfl ?_
      refine JL_rem_to rfl rfl (by omega) (IntWalk.rem_in _ _ (by omega)) ?_
      refine JL_convInt us78 it86 rfl (IntWalk.u32_in _ (by omega)) ?_
      refine JL_idx (i + j) sl32 rfl rfl rfl (by omega) (Reads.own 0 rfl) (by first | (rw [u32s_length]; omega) | (rw [i64s_length]; omega)) ?_
      refine JL_storeU 0 ((c + (A.getD i 0 * C.getD j 0 + o2.getD (i + j) 0)) % 1000000000) ty86 rfl rfl rfl (by omega) (by omega) ?_
      refine JL_done_up 68 [osl _ _ _ _ _ _] [_, _] rfl rfl (by simp only [nrmF]; rfl) rfl rfl ?_
      refine JC_region ?_
      refine JL_move rfl ?_
      refine JL_quo_to rfl rfl (by omega) (IntWalk.u64_quo _ _ (by omega)) ?_
      refine JL_assign rfl ?_
      refine JL_nil_up 68 [osl _ _ _ _ _ _] [_, _] rfl rfl (by simp only [nrmF]; rfl) rfl rfl ?_
      refine JE_block_normal ?_
      refine JE_then ?_
      refine JC_region ?_
      refine JL_add_to rfl rfl (IntWalk.i64_in _ (by omega)) ?_
      refine JL_move rfl ?_
      refine JL_nil_up 68 [osl _ _ _ _ _ _] [_, _] rfl rfl (by simp only [nrmF]; rfl) rfl rfl ?_
      refine JE_nextS (j + 1, o2.set (i + j) ((c + (A.getD i 0 * C.getD j 0 + o2.getD (i + j) 0)) % 1000000000), (c + (A.getD i 0 * C.getD j 0 + o2.getD (i + j) 0)) / 1000000000) (by kernel_rfl) ?_ ?_ (by kernel_rfl) ?_
      · exact ⟨by omega, by rw [List.length_set]; omega, hd2.set _ _ (Nat.mod_lt _ (by decide)), Nat.div_lt_of_lt_mul (by omega), times_step (by omega) hv2 (by omega) rfl, fun l hl => by rw [Nat9.getD_set_ne o2 (i + j) l _ (by omega)]; exact hz2 l hl⟩
      · first | omega | (dsimp only; omega)
      · exact subset_app subset_nil ss0
    · refine JL_done_up 68 [osl _ _ _ _ _ _] [_, _] rfl rfl (by simp only [nrmF]; rfl) rfl rfl ?_
      refine JC_seq ?_
      refine JC_false rfl ?_
      refine JC_exit ?_
      refine JE_then_exit ?_
      refine JE_nextS_exit ?_
      refine JE_block_exit ?_
      refine JE_then ?_
      refine JC_region ?_
      refine JL_move rfl ?_
      refine JL_move rfl ?_
      refine JL_move rfl ?_
      refine JL_len sl32 rfl ?_
      refine JL_add_to rfl rfl (IntWalk.i64_in _ (by omega)) ?_
      refine JL_move rfl ?_
      refine JL_convInt us78 it86 rfl (IntWalk.u32_in _ (by omega)) ?_
      refine JL_idx (i + C.length) sl32 rfl rfl rfl (by omega) (Reads.own 0 rfl) (by first | (rw [u32s_length]; omega) | (rw [i64s_length]; omega)) ?_
      refine JL_storeU 0 c ty86 rfl rfl rfl (by omega) (by omega) ?_
      refine JL_nil_up 68 [osl _ _ _ _ _ _] [_, _] rfl rfl (by simp only [nrmF]; rfl) rfl rfl ?_
      refine JE_block_normal ?_
      refine JE_then ?_
      refine JC_region ?_
      refine JL_add_to rfl rfl (IntWalk.i64_in _ (by omega)) ?_
      refine JL_move rfl ?_
      refine JL_nil_up 68 [osl _ _ _ _ _ _] [_, _] rfl rfl (by simp only [nrmF]; rfl) rfl rfl ?_
      refine JE_nextS (i + 1, o2.set (i + C.length) c) (by kernel_rfl) ?_ ?_ (by kernel_rfl) ?_
      · obtain rfl : j = C.length := by omega
        exact ⟨by omega, by rw [List.length_set]; omega, hd2.set _ _ hc, times_outer (by omega) rfl hv2 (hz2 _ (by omega)) rfl, fun l hl => by rw [Nat9.getD_set_ne o2 (i + C.length) l c (by omega)]; exact hz2 l (by omega)⟩
      · first | omega | (dsimp only; omega)
      · exact subset_app subset_nil ss0
  · refine JL_done_up 68 [osl _ _ _ _ _ _] [_, _] rfl rfl (by simp only [nrmF]; rfl) rfl rfl ?_
    refine JC_seq ?_
    refine JC_false rfl ?_
    refine JC_exit ?_
    refine JE_then_exit ?_
    refine JE_nextS_exit ?_
    refine JE_block_exit ?_
    refine JE_then ?_
    refine JC_seq ?_
    refine JC_region ?_
    refine JL_move rfl ?_
    refine JL_give 0 rfl ?_
    refine JL_norm _ [] [_, _, _] rfl rfl rfl ?_
    refine JL_callA' true (AsksA.cons (holdsA_of_mem (by repeat (first | with_reducible exact mm0 | refine mmS ?_))) AsksA.nil) (trim_con _ _ _ _ _ ⟨(by first | rfl | assumption | (simp only [lenS]; omega)), hd, (by rw [hv, List.take_of_length_le (by omega), hxA, hyC])⟩ (by omega) (by omega)) rfl ca59 ⟨rfl, rfl⟩ ?_
    rintro _ _ ⟨ad67, cap67, rfl, hk67, hm67, rfl⟩
    refine JL_assign rfl ?_
    refine JL_done_up 68 [] [_, _, _, _] rfl rfl (by simp only [nrmF]; rfl) rfl rfl ?_
    refine JC_ret ?_
    refine JE_ret (vs := [_]) [vCells ad67 (u32s (limbsOf (x * y)))] Tryd.results49 ⟨rfl, rfl⟩ ?_ ?_
    · exact ⟨ad67, cap67, rfl, hk67, hm67, rfl⟩
    · exact (all_cons (by repeat (first | with_reducible exact mm0 | refine mmS ?_)) all_nil)

theorem short_con (ad1 : Option Addr) (n1 c1 : Nat) (A : List Nat) (x d : Nat) (gA : DIn n1 A x) (hd0 : 0 < d) (hd9 : d ≤ 1000000000) (hb : n1 ≤ 1000000000) :
    ConF Tryd.prog 67 [.slice ad1 n1 c1, .int .u32 (d : Nat)] [vCells ad1 (u32s A)]
      (LSr (x / d) (x % d)) := by
  obtain ⟨rfl, dA, hxA⟩ := gA
  refine ConF_of Tryd.func67 rfl 43 _ rfl rfl ?_
  intro w0
  refine JC_norm ⟨43, [], [_, _, _, _, _, _, _, _, _, _, _, _, _, _, _, _, _, _, _, _, _, _, _, _, _, _, _, _, _, _, _, _, _, _, _, _, _, _, _, _, _, _, _]⟩ [] [_] rfl rfl rfl ?_
  refine JC_seq ?_
  refine JC_region ?_
  refine JL_assign rfl ?_
  refine JL_assign rfl ?_
  refine JL_done_up 43 [] [_] rfl rfl (by simp only [nrmF]; rfl) rfl rfl ?_
  refine JC_seq ?_
  refine JC_region ?_
  refine JL_move rfl ?_
  refine JL_len sl32 rfl ?_
  refine JL_make1 A.length A.length sl32 rfl rfl rfl rfl (by omega) (by omega) (by omega) (fun g11 => ?_)
  rw [u32s_replicate]
  refine JL_assign rfl ?_
  refine JL_done_up 43 [osl _ _ _ _ _ _] [_] rfl rfl (by simp only [nrmF]; rfl) rfl rfl ?_
  refine JC_seq ?_
  refine JC_region ?_
  refine JL_assign rfl ?_
  refine JL_done_up 43 [osl _ _ _ _ _ _] [_] rfl rfl (by simp only [nrmF]; rfl) rfl rfl ?_
  refine JC_seq ?_
  refine JC_seq ?_
  refine JC_region ?_
  refine JL_move rfl ?_
  refine JL_len sl32 rfl ?_
  refine JL_sub_to rfl rfl (IntWalk.i64_in _ (by omega)) ?_
  refine JL_assign rfl ?_
  refine JL_done_up 43 [osl _ _ _ _ _ _] [_] rfl rfl (by simp only [nrmF]; rfl) rfl rfl ?_
  refine JC_block ?_
  refine JC_loopS ((Nat) × (List Nat) × (Nat)) (fun (k, out, r) => k ≤ A.length ∧ out.length = A.length ∧ Dig out ∧ r < d ∧ val (A.drop k) = d * val (out.drop k) + r) (fun (k, out, r) => k) (fun u (k, out, r) => [none, none, none, none, none, none, none, some (.int .u64 (r : Nat)), some (.int .i64 ((k : Nat) - 1)), none, none, none, none, none, none, some (u 15), some (u 16), some (u 17), some (u 18), some (u 19), some (u 20), some (u 21), some (u 22), some (u 23), some (u 24), some (u 25), some (u 26), some (u 27), some (u 28), some (u 29), some (u 30), some (u 31), some (u 32), some (u 33), some (u 34), some (u 35), some (u 36), some (u 37), some (u 38), none, none, none, none]) (fun (k, out, r) => [some (osl (some ⟨g11, 0, none⟩) A.length A.length 86 1 (u32s out))]) (fun (k, out, r) => []) (A.length, List.replicate A.length 0, 0) (by kernel_rfl) ?_ (by kernel_rfl) ?_ ?_
  · exact ⟨Nat.le_refl _, List.length_replicate, Dig.replicate _, hd0, by rw [List.drop_length, List.drop_of_length_le (by simp)]; simp [val]⟩
  · exact subset_nil
  intro u i hC
  obtain ⟨k, out, r⟩ := i
  obtain ⟨hk, ho, hd, hr, hv⟩ := hC
  refine JC_norm ⟨43, [], [_, _, _, _, _, _, _, _, _, _, _, _, _, _, _, _, _, _, _, _, _, _, _, _, _, _, _, _, _, _, _, _, _, _, _, _, _, _, _, _, _, _, _]⟩ [osl _ _ _ _ _ _] [_] rfl rfl rfl ?_
  have hX := dA.getD (k - 1)
  refine JC_seq ?_
  refine JC_seq ?_
  refine JC_region ?_
  refine JL_move rfl ?_
  refine JL_geq rfl rfl ?_
  refine JL_split (fun h16 => ?_) (fun h16 => ?_)
  · refine JL_done_up 43 [osl _ _ _ _ _ _] [_] rfl rfl (by simp only [nrmF]; rfl) rfl rfl ?_
    refine JC_true rfl ?_
    refine JC_skip ?_
    refine JE_then ?_
    refine JC_seq ?_
    refine JC_block ?_
    refine JC_seq ?_
    refine JC_region ?_
    refine JL_move rfl ?_
    refine JL_mul_to rfl rfl (IntWalk.u64_in _ (by omega)) ?_
    refine JL_move rfl ?_
    refine JL_move rfl ?_
    have hq := short_lt hr hX
    refine JL_idx (k - 1) sl32 rfl rfl (by omega) (by omega) (Reads.view List.mem_cons_self) (by first | (rw [u32s_length]; omega) | (rw [i64s_length]; omega)) ?_
    refine JL_loadE ty86 rfl (Reads.view List.mem_cons_self) (u32s_get (by omega)) ?_
    refine JL_convInt us86 it78 rfl (IntWalk.u64_in _ (by omega)) ?_
    refine JL_add_to rfl rfl (IntWalk.u64_in _ (by omega)) ?_
    rw [show (((r : Nat) : Int) * 1000000000 + ((A.getD (k - 1) 0 : Nat) : Int) : Int) = ((r * 1000000000 + A.getD (k - 1) 0 : Nat) : Int) from by omega]
    refine JL_assign rfl ?_
    refine JL_done_up 43 [osl _ _ _ _ _ _] [_] rfl rfl (by simp only [nrmF]; rfl) rfl rfl ?_
    refine JC_seq ?_
    refine JC_region ?_
    refine JL_move rfl ?_
    refine JL_move rfl ?_
    refine JL_move rfl ?_
    refine JL_move rfl ?_
    refine JL_convInt us86 it78 rfl (IntWalk.u64_in _ (by omega)) ?_
    refine JL_quo_to rfl rfl (by omega) (quo_nat_u64 _ _ (by omega)) ?_
    refine JL_convInt us78 it86 rfl (u32_nat _ (Nat.lt_of_lt_of_le hq (by decide))) ?_
    refine JL_idx (k - 1) sl32 rfl rfl (by omega) (by omega) (Reads.own 0 rfl) (by first | (rw [u32s_length]; omega) | (rw [i64s_length]; omega)) ?_
    refine JL_storeU 0 ((r * 1000000000 + A.getD (k - 1) 0) / d) ty86 rfl rfl rfl (by omega) (by omega) ?_
    refine JL_done_up 43 [osl _ _ _ _ _ _] [_] rfl rfl (by simp only [nrmF]; rfl) rfl rfl ?_
    refine JC_region ?_
    refine JL_move rfl ?_
    refine JL_move rfl ?_
    refine JL_convInt us86 it78 rfl (IntWalk.u64_in _ (by omega)) ?_
    refine JL_rem_to rfl rfl (by omega) (rem_nat _ _) ?_
    refine JL_assign rfl ?_
    refine JL_nil_up 43 [osl _ _ _ _ _ _] [_] rfl rfl (by simp only [nrmF]; rfl) rfl rfl ?_
    refine JE_block_normal ?_
    refine JE_then ?_
    refine JC_region ?_
    refine JL_move rfl ?_
    refine JL_sub_to rfl rfl (IntWalk.i64_in _ (by omega)) ?_
    rw [show ((k : Int) - 1 - 1 : Int) = ((k - 1 : Nat) : Int) - 1 from by omega]
    refine JL_assign rfl ?_
    refine JL_nil_up 43 [osl _ _ _ _ _ _] [_] rfl rfl (by simp only [nrmF]; rfl) rfl rfl ?_
    refine JE_nextS (k - 1, out.set (k - 1) ((r * 1000000000 + A.getD (k - 1) 0) / d), (r * 1000000000 + A.getD (k - 1) 0) % d) (by kernel_rfl) ?_ ?_ (by kernel_rfl) ?_
    · exact ⟨by omega, by rw [List.length_set]; omega, hd.set _ _ hq, Nat.mod_lt _ hd0, short_step (by omega) ho (by rw [Nat.sub_add_cancel (by omega)]; exact hv) hd0 rfl⟩
    · first | omega | (dsimp only; omega)
    · exact subset_app subset_nil ss0
  · refine JL_done_up 43 [osl _ _ _ _ _ _] [_] rfl rfl (by simp only [nrmF]; rfl) rfl rfl ?_
    refine JC_false rfl ?_
    refine JC_exit ?_
    refine JE_then_exit ?_
    refine JE_nextS_exit ?_
    refine JE_block_exit ?_
    refine JE_then ?_
    refine JC_seq ?_
    refine JC_region ?_
    refine JL_move rfl ?_
    refine JL_give 0 rfl ?_
    refine JL_norm _ [] [_, _] rfl rfl rfl ?_
    refine JL_callA' true (AsksA.cons (holdsA_of_mem (by repeat (first | with_reducible exact mm0 | refine mmS ?_))) AsksA.nil) (trim_con _ _ _ _ _ ⟨(by first | rfl | assumption | (simp only [lenS]; omega)), hd, (short_val (k := k) (by omega) hxA hv hr)⟩ (by omega) (by omega)) rfl ca59 ⟨rfl, rfl⟩ ?_
    rintro _ _ ⟨ad40, cap40, rfl, hk40, hm40, rfl⟩
    refine JL_move rfl ?_
    refine JL_convInt us78 it86 rfl (IntWalk.u32_in _ (by omega)) ?_
    refine JL_assign rfl ?_
    refine JL_assign rfl ?_
    refine JL_done_up 43 [] [_, _, _] rfl rfl (by simp only [nrmF]; rfl) rfl rfl ?_
    refine JC_ret ?_
    have hfin := short_rem (k := k) (by omega) hxA hv hr
    rw [hfin]
    refine JE_ret (vs := [_, _]) [vCells ad40 (u32s (limbsOf (x / d)))] Tryd.results67 ⟨rfl, rfl, rfl⟩ ?_ ?_
    · exact ⟨ad40, cap40, rfl, hk40, hm40, rfl⟩
    · exact (all_cons (by repeat (first | with_reducible exact mm0 | refine mmS ?_)) all_nil)

theorem nat_of_con (n : Nat) (hn : n < 18446744073709551616) :
    ConF Tryd.prog 50 [.int .u64 (n : Nat)] []
      (LN n) := by
  refine ConF_of Tryd.func50 rfl 16 _ rfl rfl ?_
  intro w0
  refine JC_norm ⟨16, [], [_, _, _, _, _, _, _, _, _, _, _, _, _, _, _, _]⟩ [] [] rfl rfl rfl ?_
  refine JC_seq ?_
  refine JC_region ?_
  refine JL_alloc z34 (fun b2 => ?_)
  refine JL_done_up 16 [box _ _ [_]] [] rfl rfl (by simp only [nrmF]; rfl) rfl rfl ?_
  refine JC_seq ?_
  refine JC_region ?_
  refine JL_move rfl ?_
  refine JL_rem_to rfl rfl (by omega) (rem_nat n 1000000000) ?_
  refine JL_convInt us78 it86 rfl (IntWalk.u32_in _ (by omega)) ?_
  refine JL_move rfl ?_
  refine JL_quo_to rfl rfl (by omega) (quo_nat_u64 n 1000000000 (by omega)) ?_
  refine JL_rem_to rfl rfl (by omega) (rem_nat (n / 1000000000) 1000000000) ?_
  refine JL_convInt us78 it86 rfl (IntWalk.u32_in _ (by omega)) ?_
  refine JL_move rfl ?_
  refine JL_quo_to rfl rfl (by omega) (quo_nat_u64 n 1000000000 (by omega)) ?_
  refine JL_quo_to rfl rfl (by omega) (quo_nat_u64 (n / 1000000000) 1000000000 (by omega)) ?_
  refine JL_convInt us78 it86 rfl (IntWalk.u32_in _ (by omega)) ?_
  refine JL_buildN (cs0 := [.int .u32 0, .int .u32 0, .int .u32 0]) (cs := [_, _, _]) [(0, [_]), (1, [_]), (2, [_])] sl32 (by kernel_rfl) ⟨⟨rfl, _, rfl, rfl⟩, ⟨rfl, _, rfl, rfl⟩, ⟨rfl, _, rfl, rfl⟩, rfl⟩ rfl rfl rfl rfl (fun g14 => ?_)
  refine JL_norm _ [box _ _ [_], osl _ _ _ _ _ (u32s ([n % 1000000000, n / 1000000000 % 1000000000, n / 1000000000 / 1000000000]))] [] rfl rfl rfl ?_
  refine JL_give 1 rfl ?_
  refine JL_norm _ [box _ _ [_]] [_] rfl rfl rfl ?_
  refine JL_callA' true (AsksA.cons (holdsA_of_mem (by repeat (first | with_reducible exact mm0 | refine mmS ?_))) AsksA.nil) (made_con _ 3 _ _ _ ⟨rfl, Dig.cons (by omega) (Dig.cons (by omega) (Dig.cons (by omega) Dig.nil)), val_of3 n⟩ (by omega) (by omega)) rfl ca48 ⟨rfl, rfl⟩ ?_
  rintro _ _ ⟨ad15, cap15, rfl, hk15, hm15, rfl⟩
  refine JL_store (vs := [_]) 0 ty34 rfl rfl rfl (AllOne.cons rfl AllOne.nil) rfl (Nat.le_of_ble_eq_true rfl) ?_
  refine JL_done_up 16 [box _ _ [_]] [_, _] rfl rfl (by simp only [nrmF]; rfl) rfl rfl ?_
  refine JC_ret ?_
  refine JE_ret (vs := [_]) [vCells ad15 (u32s (limbsOf (n)))] Tryd.results50 ⟨RV.cell (vs := [_]) 0 ty34 rfl rfl ⟨rfl, trivial⟩, rfl⟩ ?_ ?_
  · exact ⟨ad15, cap15, rfl, hk15, hm15, rfl⟩
  · exact (all_cons (by repeat (first | with_reducible exact mm0 | refine mmS ?_)) all_nil)

end Go.Fw.K
