/- Walks through functions of the given program: each meets its contract. (Printed by a program of this repo.) -/
import Derived.Test.YtmbgbodkhdfdoaaDoorV1
import Derived.Test.YtmbgbodkhdfdoaaDoorProg
namespace Go.Fw.V3
open Go Go.RowKit Go.Proofs Go.Nat9 Go.Fw
attribute [local irreducible] JC JL JE
theorem ca94 : callable Tryd.prog 94 = true := by kernel_rfl
theorem fo24_0 : fOf Tryd.prog 24 0 = some 0 := by kernel_rfl
theorem it87 : intTy Tryd.prog 87 = some .u32 := by kernel_rfl
theorem it94 : intTy Tryd.prog 94 = some .u64 := by kernel_rfl
theorem mixed : Tryd.prog.follows .mixedOrders = true := by kernel_rfl
theorem sl22 : slOf Tryd.prog 22 = some (87, 1, 4, [.int .u32 0]) := by kernel_rfl
theorem st24 : stOf Tryd.prog 24 = some ([(0, 1)], [.slice none 0 0]) := by kernel_rfl
theorem ty22 : tyOf Tryd.prog 22 = some (false, 1) := by kernel_rfl
theorem ty24 : tyOf Tryd.prog 24 = some (true, 1) := by kernel_rfl
theorem ty87 : tyOf Tryd.prog 87 = some (false, 1) := by kernel_rfl
theorem us87 : (Tryd.prog.underlying 87).isSome = true := by kernel_rfl
theorem us94 : (Tryd.prog.underlying 94).isSome = true := by kernel_rfl
theorem z24 : zeroOf Tryd.prog 24 = some [.slice none 0 0] := by kernel_rfl
end Go.Fw.V3
namespace Go.Fw.K
open Go Go.RowKit Go.Proofs Go.Nat9 Go.Fw Go.Fw.V3
attribute [local irreducible] JC JL JE

theorem rmul_con (ad1 : Option Addr) (n1 c1 : Nat) (L1 : List Nat) (x1 : Nat) (g1 : NIn n1 L1 x1 200000000) (ad2 : Option Addr) (n2 c2 : Nat) (L2 : List Nat) (x2 : Nat) (g2 : NIn n2 L2 x2 200000000) (z : Nat) (hz : x1 * x2 = z) :
    ConF Tryd.prog 68 [.agg #[.slice ad1 n1 c1], .agg #[.slice ad2 n2 c2]] [vCells ad1 (u32s L1), vCells ad2 (u32s L2)]
      (LN z) := by
  subst hz
  have hs1 := g1.sz
  have hl1 := g1.le
  have hs2 := g2.sz
  have hl2 := g2.le
  refine ConF_of Tryd.func68 rfl 83 _ rfl rfl ?_
  intro w0
  refine JC_norm ⟨83, [], [_, _, _, _, _, _, _, _, _, _, _, _, _, _, _, _, _, _, _, _, _, _, _, _, _, _, _, _, _, _, _, _, _, _, _, _, _, _, _, _, _, _, _, _, _, _, _, _, _, _, _, _, _, _, _, _, _, _, _, _, _, _, _, _, _, _, _, _, _, _, _, _, _, _, _, _, _, _, _, _, _, _, _]⟩ [] [_, _] rfl rfl rfl ?_
  refine JC_seq ?_
  refine JC_region ?_
  refine JL_box rfl rfl (fun b2 => ?_)
  refine JL_box rfl rfl (fun b3 => ?_)
  refine JL_alloc z24 (fun b4 => ?_)
  refine JL_done_up 83 [box _ _ [_], box _ _ [_], box _ _ [_]] [_, _] rfl rfl (by simp only [nrmF]; rfl) rfl rfl ?_
  refine JC_seq ?_
  refine JC_region ?_
  refine JL_loadA (vs := [_]) 0 ty24 rfl rfl ⟨rfl, trivial⟩ ?_
  refine JL_callF' (Asks.cons (holds_of_mem (by repeat (first | with_reducible exact mm0 | refine mmS ?_))) Asks.nil) (rnorm_con _ _ _ _ _ (g1.mono (by omega))) rfl ca94 ⟨rfl, rfl⟩ ?_
  rintro _ _ ⟨ad11, cap11, rfl, hk11, hm11, rfl⟩
  refine JL_store (vs := [_]) 0 ty24 rfl rfl rfl (AllOne.cons rfl AllOne.nil) rfl (Nat.le_of_ble_eq_true rfl) ?_
  refine JL_done_up 83 [box _ _ [_], box _ _ [_], box _ _ [_]] [_, _, _] rfl rfl (by simp only [nrmF]; rfl) rfl rfl ?_
  refine JC_seq ?_
  refine JC_region ?_
  refine JL_loadA (vs := [_]) 1 ty24 rfl rfl ⟨rfl, trivial⟩ ?_
  refine JL_callF' (Asks.cons (holds_of_mem (by repeat (first | with_reducible exact mm0 | refine mmS ?_))) Asks.nil) (rnorm_con _ _ _ _ _ (g2.mono (by omega))) rfl ca94 ⟨rfl, rfl⟩ ?_
  rintro _ _ ⟨ad13, cap13, rfl, hk13, hm13, rfl⟩
  refine JL_store (vs := [_]) 1 ty24 rfl rfl rfl (AllOne.cons rfl AllOne.nil) rfl (Nat.le_of_ble_eq_true rfl) ?_
  refine JL_done_up 83 [box _ _ [_], box _ _ [_], box _ _ [_]] [_, _, _, _] rfl rfl (by simp only [nrmF]; rfl) rfl rfl ?_
  refine JC_seq ?_
  refine JC_region ?_
  refine JL_fieldAddr fo24_0 rfl ?_
  refine JL_load 0 ty22 rfl rfl rfl ?_
  refine JL_len sl22 rfl ?_
  refine JL_fieldAddr fo24_0 rfl ?_
  refine JL_load 1 ty22 rfl rfl rfl ?_
  refine JL_len sl22 rfl ?_
  refine JL_add_to rfl rfl (IntWalk.i64_in _ (by omega)) ?_
  refine JL_add_to rfl rfl (IntWalk.i64_in _ (by omega)) ?_
  refine JL_make1 ((limbsOf x1).length + (limbsOf x2).length + 1) ((limbsOf x1).length + (limbsOf x2).length + 1) sl22 rfl rfl (by omega) (by omega) (by omega) (by omega) (by omega) (fun g22 => ?_)
  rw [u32s_replicate]
  refine JL_assign rfl ?_
  refine JL_done_up 83 [box _ _ [_], box _ _ [_], box _ _ [_], osl _ _ _ _ _ _] [_, _, _, _] rfl rfl (by simp only [nrmF]; rfl) rfl rfl ?_
  refine JC_seq ?_
  refine JC_seq ?_
  refine JC_region ?_
  refine JL_assign rfl ?_
  refine JL_done_up 83 [box _ _ [_], box _ _ [_], box _ _ [_], osl _ _ _ _ _ _] [_, _, _, _] rfl rfl (by simp only [nrmF]; rfl) rfl rfl ?_
  refine JC_block ?_
  refine JC_loopS ((Nat) × (List Nat)) (fun (i, out) => i ≤ (limbsOf x1).length ∧ out.length = (limbsOf x1).length + (limbsOf x2).length + 1 ∧ Dig out ∧ val out = val ((limbsOf x1).take i) * val (limbsOf x2) ∧ ∀ l, i + (limbsOf x2).length ≤ l → out.getD l 0 = 0) (fun (i, out) => (limbsOf x1).length - i) (fun u (i, out) => [none, none, none, none, none, none, some (.int .i64 (i : Nat)), some (u 7), some (u 8), some (u 9), none, none, none, none, none, none, none, none, none, none, none, none, none, some (u 23), some (u 24), some (u 25), some (u 26), some (u 27), some (u 28), some (u 29), some (u 30), some (u 31), some (u 32), some (u 33), some (u 34), some (u 35), some (u 36), some (u 37), some (u 38), some (u 39), some (u 40), some (u 41), some (u 42), some (u 43), some (u 44), some (u 45), some (u 46), some (u 47), some (u 48), some (u 49), some (u 50), some (u 51), some (u 52), some (u 53), some (u 54), some (u 55), some (u 56), some (u 57), some (u 58), some (u 59), some (u 60), some (u 61), some (u 62), some (u 63), some (u 64), some (u 65), some (u 66), some (u 67), some (u 68), some (u 69), some (u 70), some (u 71), some (u 72), some (u 73), some (u 74), some (u 75), some (u 76), some (u 77), some (u 78), some (u 79), none, none, none]) (fun (i, out) => [none, none, none, some (osl (some ⟨g22, 0, none⟩) ((limbsOf x1).length + (limbsOf x2).length + 1) ((limbsOf x1).length + (limbsOf x2).length + 1) 87 1 (u32s out))]) (fun (i, out) => []) (0, List.replicate ((limbsOf x1).length + (limbsOf x2).length + 1) 0) (by kernel_rfl) ?_ (by kernel_rfl) ?_ ?_
  · exact ⟨Nat.zero_le _, List.length_replicate, Dig.replicate _, by rw [val_replicate]; simp [val], fun l _ => getD_replicate _ l⟩
  · exact subset_nil
  intro u i hC
  obtain ⟨i, out⟩ := i
  obtain ⟨hi, ho, hd, hv, hz⟩ := hC
  refine JC_norm ⟨83, [], [_, _, _, _, _, _, _, _, _, _, _, _, _, _, _, _, _, _, _, _, _, _, _, _, _, _, _, _, _, _, _, _, _, _, _, _, _, _, _, _, _, _, _, _, _, _, _, _, _, _, _, _, _, _, _, _, _, _, _, _, _, _, _, _, _, _, _, _, _, _, _, _, _, _, _, _, _, _, _, _, _, _, _]⟩ [box _ _ [_], box _ _ [_], box _ _ [_], osl _ _ _ _ _ _] [_, _, _, _] rfl rfl rfl ?_
  have hX := (dig_limbsOf x1).getD i
  refine JC_seq ?_
  refine JC_seq ?_
  refine JC_region ?_
  refine JL_move rfl ?_
  refine JL_fieldAddr fo24_0 rfl ?_
  refine JL_load 0 ty22 rfl rfl rfl ?_
  refine JL_len sl22 rfl ?_
  refine JL_lss rfl rfl ?_
  refine JL_split (fun h27 => ?_) (fun h27 => ?_)
  · refine JL_done_up 83 [box _ _ [_], box _ _ [_], box _ _ [_], osl _ _ _ _ _ _] [_, _, _, _] rfl rfl (by simp only [nrmF]; rfl) rfl rfl ?_
    refine JC_true rfl ?_
    refine JC_skip ?_
    refine JE_then ?_
    refine JC_seq ?_
    refine JC_block ?_
    refine JC_seq ?_
    refine JC_region ?_
    refine JL_assign rfl ?_
    refine JL_done_up 83 [box _ _ [_], box _ _ [_], box _ _ [_], osl _ _ _ _ _ _] [_, _, _, _] rfl rfl (by simp only [nrmF]; rfl) rfl rfl ?_
    refine JC_seq ?_
    refine JC_region ?_
    refine JL_assign rfl ?_
    refine JL_done_up 83 [box _ _ [_], box _ _ [_], box _ _ [_], osl _ _ _ _ _ _] [_, _, _, _] rfl rfl (by simp only [nrmF]; rfl) rfl rfl ?_
    refine JC_block ?_
    refine JC_loopS ((Nat) × (List Nat) × (Nat)) (fun (k, o2, c) => (k ≤ (limbsOf x2).length ∨ (k = (limbsOf x2).length + 1 ∧ c = 0)) ∧ o2.length = (limbsOf x1).length + (limbsOf x2).length + 1 ∧ Dig o2 ∧ c < 1000000000 ∧ val o2 + 1000000000 ^ (i + k) * c = val ((limbsOf x1).take i) * val (limbsOf x2) + 1000000000 ^ i * ((limbsOf x1).getD i 0 * val ((limbsOf x2).take k)) ∧ (∀ l, i + (limbsOf x2).length + 1 ≤ l → o2.getD l 0 = 0) ∧ (k ≤ (limbsOf x2).length → o2.getD (i + (limbsOf x2).length) 0 = 0)) (fun (k, o2, c) => (limbsOf x2).length + 1 - k) (fun u (k, o2, c) => [none, none, none, none, none, none, none, some (.int .u64 (c : Nat)), some (.int .i64 (k : Nat)), some (u 9), none, none, none, none, none, none, none, none, none, none, none, none, none, none, none, none, none, none, none, none, some (u 30), some (u 31), some (u 32), some (u 33), some (u 34), some (u 35), some (u 36), some (u 37), some (u 38), some (u 39), some (u 40), some (u 41), some (u 42), some (u 43), some (u 44), some (u 45), some (u 46), some (u 47), some (u 48), some (u 49), some (u 50), some (u 51), some (u 52), some (u 53), some (u 54), some (u 55), some (u 56), some (u 57), some (u 58), some (u 59), some (u 60), some (u 61), some (u 62), some (u 63), some (u 64), some (u 65), some (u 66), some (u 67), some (u 68), some (u 69), some (u 70), some (u 71), some (u 72), some (u 73), some (u 74), some (u 75), some (u 76), some (u 77), some (u 78), some (u 79), none, none, none]) (fun (k, o2, c) => [none, none, none, some (osl (some ⟨g22, 0, none⟩) ((limbsOf x1).length + (limbsOf x2).length + 1) ((limbsOf x1).length + (limbsOf x2).length + 1) 87 1 (u32s o2))]) (fun (k, o2, c) => []) (0, out, 0) (by kernel_rfl) ?_ (by kernel_rfl) ?_ ?_
    · exact ⟨.inl (Nat.zero_le _), ho, hd, by omega, by rw [hv]; simp [val], fun l hl => hz l (by omega), fun _ => hz _ (Nat.le_refl _)⟩
    · exact subset_nil
    intro u i hC
    obtain ⟨k, o2, c⟩ := i
    obtain ⟨hk, ho2, hd2, hc, hv2, hz2, hz3⟩ := hC
    refine JC_norm ⟨83, [], [_, _, _, _, _, _, _, _, _, _, _, _, _, _, _, _, _, _, _, _, _, _, _, _, _, _, _, _, _, _, _, _, _, _, _, _, _, _, _, _, _, _, _, _, _, _, _, _, _, _, _, _, _, _, _, _, _, _, _, _, _, _, _, _, _, _, _, _, _, _, _, _, _, _, _, _, _, _, _, _, _, _, _]⟩ [box _ _ [_], box _ _ [_], box _ _ [_], osl _ _ _ _ _ _] [_, _, _, _] rfl rfl rfl ?_
    have hY := (dig_limbsOf x2).getD k
    have hO := hd2.getD (i + k)
    have hxy : ((limbsOf x1).getD i 0 * (limbsOf x2).getD k 0) ≤ 999999999 * 999999999 := Nat.mul_le_mul (by omega) (by omega)
    have hct := times_carry hX hY hO hc
    have hge : (limbsOf x2).length ≤ k → ((limbsOf x1).getD i 0 * (limbsOf x2).getD k 0) = 0 := fun h => by rw [getD_of_ge (limbsOf x2) k h, Nat.mul_zero]
    have ho0 : k = (limbsOf x2).length → o2.getD (i + k) 0 = 0 := fun h => by rw [h]; exact hz3 (by omega)
    refine JC_seq ?_
    refine JC_seq ?_
    refine JC_region ?_
    refine JL_move rfl ?_
    refine JL_fieldAddr fo24_0 rfl ?_
    refine JL_load 1 ty22 rfl rfl rfl ?_
    refine JL_len sl22 rfl ?_
    refine JL_lss rfl rfl ?_
    refine JL_split (fun h34 => ?_) (fun h34 => ?_)
    · refine JL_move rfl ?_
      refine JL_guard_no rfl rfl ?_
      refine JL_guard_no rfl rfl ?_
      refine JL_pick_t rfl rfl ?_
      refine JL_done_up 83 [box _ _ [_], box _ _ [_], box _ _ [_], osl _ _ _ _ _ _] [_, _, _, _] rfl rfl (by simp only [nrmF]; rfl) rfl rfl ?_
      refine JC_true rfl ?_
      refine JC_skip ?_
      refine JE_then ?_
      refine JC_seq ?_
      refine JC_block ?_
      refine JC_seq ?_
      refine JC_region ?_
      refine JL_move rfl ?_
      refine JL_move rfl ?_
      refine JL_move rfl ?_
      refine JL_add_to rfl rfl (IntWalk.i64_in _ (by omega)) ?_
      refine JL_idx (i + k) sl22 rfl rfl rfl (by omega) (Reads.own 3 rfl) (by first | (rw [u32s_length]; omega) | (rw [i64s_length]; omega)) ?_
      refine JL_loadE ty87 rfl (Reads.own 3 rfl) (u32s_get (by omega)) ?_
      refine JL_convInt us87 it94 rfl (IntWalk.u64_in _ (by omega)) ?_
      refine JL_move rfl ?_
      refine JL_add_to rfl rfl (IntWalk.u64_in _ (by omega)) ?_
      refine JL_assign rfl ?_
      refine JL_done_up 83 [box _ _ [_], box _ _ [_], box _ _ [_], osl _ _ _ _ _ _] [_, _, _, _] rfl rfl (by simp only [nrmF]; rfl) rfl rfl ?_
      refine JC_seq ?_
      refine JC_seq ?_
      refine JC_region ?_
      refine JL_move rfl ?_
      refine JL_fieldAddr fo24_0 rfl ?_
      refine JL_load 1 ty22 rfl rfl rfl ?_
      refine JL_len sl22 rfl ?_
      refine JL_lss rfl rfl ?_
      refine JL_done_up 83 [box _ _ [_], box _ _ [_], box _ _ [_], osl _ _ _ _ _ _] [_, _, _, _] rfl rfl (by simp only [nrmF]; rfl) rfl rfl ?_
      refine JC_cutT ((Nat)) (fun (t : Nat) => t = o2.getD (i + k) 0 + c + ((limbsOf x1).getD i 0 * (limbsOf x2).getD k 0)) (fun u (t : Nat) => [none, none, none, none, none, none, none, none, none, some (.int .u64 (t : Nat)), none, none, none, none, none, none, none, none, none, none, none, none, none, none, none, none, none, none, none, none, none, none, none, none, none, none, none, none, none, none, none, none, none, none, none, none, none, none, none, none, none, none, none, none, none, some (u 55), some (u 56), some (u 57), some (u 58), some (u 59), some (u 60), some (u 61), some (u 62), some (u 63), some (u 64), some (u 65), some (u 66), some (u 67), some (u 68), some (u 69), none, none, none, none, none, none, none, none, none, none, none, none, none]) (fun (t : Nat) => [none, none, none, none]) (fun (t : Nat) => []) ?_ ?_
      · refine JC_cond rfl (fun hb => ?_) (fun hb => ?_)
        · have h54 := of_decide_eq_true hb
          refine JC_drawT mixed 14 [spV 55 [] _, spV 56 [] _, spV 57 [1] _, spV 58 [] _, spV 59 [2, 3] _, spV 60 [4] _, spV 61 [5] _, spV 62 [] _, spV 63 [7] _, spV 64 [] _, spV 65 [8, 9] _, spV 66 [10] _, spV 67 [11] _, spV 68 [6, 12] _] ⟨OblS_V (fun vals ex ψ => (by
              refine JL_normQ ⟨83, [(55, _), (56, _), (57, _), (58, _), (59, _), (60, _), (61, _), (62, _), (63, _), (64, _), (65, _), (66, _), (67, _), (68, _)], _⟩ (_ :: _ :: _ :: _ :: ψ) rfl rfl ?_
              refine JL_move rfl ?_
              exact JL_nil (JE_stepV rfl ss0))), OblS_V (fun vals ex ψ => (by
              refine JL_normQ ⟨83, [(55, _), (56, _), (57, _), (58, _), (59, _), (60, _), (61, _), (62, _), (63, _), (64, _), (65, _), (66, _), (67, _), (68, _)], _⟩ (_ :: _ :: _ :: _ :: ψ) rfl rfl ?_
              refine JL_fieldAddr fo24_0 rfl ?_
              exact JL_nil (JE_stepV rfl ss0))), OblS_V (fun vals ex ψ => (by
              refine JL_normQ ⟨83, [(55, _), (56, _), (57, _), (58, _), (59, _), (60, _), (61, _), (62, _), (63, _), (64, _), (65, _), (66, _), (67, _), (68, _)], _⟩ (_ :: _ :: _ :: _ :: ψ) rfl rfl ?_
              refine JL_load 0 ty22 rfl rfl rfl ?_
              exact JL_nil (JE_stepV rfl ss0))), OblS_V (fun vals ex ψ => (by
              refine JL_normQ ⟨83, [(55, _), (56, _), (57, _), (58, _), (59, _), (60, _), (61, _), (62, _), (63, _), (64, _), (65, _), (66, _), (67, _), (68, _)], _⟩ (_ :: _ :: _ :: _ :: ψ) rfl rfl ?_
              refine JL_move rfl ?_
              exact JL_nil (JE_stepV rfl ss0))), OblS_V (fun vals ex ψ => (by
              refine JL_normQ ⟨83, [(55, _), (56, _), (57, _), (58, _), (59, _), (60, _), (61, _), (62, _), (63, _), (64, _), (65, _), (66, _), (67, _), (68, _)], _⟩ (_ :: _ :: _ :: _ :: ψ) rfl rfl ?_
              refine JL_idx i sl22 rfl rfl rfl (by omega) (Reads.view (List.mem_cons_of_mem _ List.mem_cons_self)) (by first | (rw [u32s_length]; omega) | (rw [i64s_length]; omega)) ?_
              exact JL_nil (JE_stepV rfl ss0))), OblS_V (fun vals ex ψ => (by
              refine JL_normQ ⟨83, [(55, _), (56, _), (57, _), (58, _), (59, _), (60, _), (61, _), (62, _), (63, _), (64, _), (65, _), (66, _), (67, _), (68, _)], _⟩ (_ :: _ :: _ :: _ :: ψ) rfl rfl ?_
              refine JL_loadE ty87 rfl (Reads.view (List.mem_cons_of_mem _ List.mem_cons_self)) (u32s_get (by omega)) ?_
              exact JL_nil (JE_stepV rfl ss0))), OblS_V (fun vals ex ψ => (by
              refine JL_normQ ⟨83, [(55, _), (56, _), (57, _), (58, _), (59, _), (60, _), (61, _), (62, _), (63, _), (64, _), (65, _), (66, _), (67, _), (68, _)], _⟩ (_ :: _ :: _ :: _ :: ψ) rfl rfl ?_
              refine JL_convInt us87 it94 rfl (IntWalk.u64_in _ (by omega)) ?_
              exact JL_nil (JE_stepV rfl ss0))), OblS_V (fun vals ex ψ => (by
              refine JL_normQ ⟨83, [(55, _), (56, _), (57, _), (58, _), (59, _), (60, _), (61, _), (62, _), (63, _), (64, _), (65, _), (66, _), (67, _), (68, _)], _⟩ (_ :: _ :: _ :: _ :: ψ) rfl rfl ?_
              refine JL_fieldAddr fo24_0 rfl ?_
              exact JL_nil (JE_stepV rfl ss0))), OblS_V (fun vals ex ψ => (by
              refine JL_normQ ⟨83, [(55, _), (56, _), (57, _), (58, _), (59, _), (60, _), (61, _), (62, _), (63, _), (64, _), (65, _), (66, _), (67, _), (68, _)], _⟩ (_ :: _ :: _ :: _ :: ψ) rfl rfl ?_
              refine JL_load 1 ty22 rfl rfl rfl ?_
              exact JL_nil (JE_stepV rfl ss0))), OblS_V (fun vals ex ψ => (by
              refine JL_normQ ⟨83, [(55, _), (56, _), (57, _), (58, _), (59, _), (60, _), (61, _), (62, _), (63, _), (64, _), (65, _), (66, _), (67, _), (68, _)], _⟩ (_ :: _ :: _ :: _ :: ψ) rfl rfl ?_
              refine JL_move rfl ?_
              exact JL_nil (JE_stepV rfl ss0))), OblS_V (fun vals ex ψ => (by
              refine JL_normQ ⟨83, [(55, _), (56, _), (57, _), (58, _), (59, _), (60, _), (61, _), (62, _), (63, _), (64, _), (65, _), (66, _), (67, _), (68, _)], _⟩ (_ :: _ :: _ :: _ :: ψ) rfl rfl ?_
              refine JL_idx k sl22 rfl rfl rfl (by omega) (Reads.view List.mem_cons_self) (by first | (rw [u32s_length]; omega) | (rw [i64s_length]; omega)) ?_
              exact JL_nil (JE_stepV rfl ss0))), OblS_V (fun vals ex ψ => (by
              refine JL_normQ ⟨83, [(55, _), (56, _), (57, _), (58, _), (59, _), (60, _), (61, _), (62, _), (63, _), (64, _), (65, _), (66, _), (67, _), (68, _)], _⟩ (_ :: _ :: _ :: _ :: ψ) rfl rfl ?_
              refine JL_loadE ty87 rfl (Reads.view List.mem_cons_self) (u32s_get (by omega)) ?_
              exact JL_nil (JE_stepV rfl ss0))), OblS_V (fun vals ex ψ => (by
              refine JL_normQ ⟨83, [(55, _), (56, _), (57, _), (58, _), (59, _), (60, _), (61, _), (62, _), (63, _), (64, _), (65, _), (66, _), (67, _), (68, _)], _⟩ (_ :: _ :: _ :: _ :: ψ) rfl rfl ?_
              refine JL_convInt us87 it94 rfl (IntWalk.u64_in _ (by omega)) ?_
              exact JL_nil (JE_stepV rfl ss0))), OblS_V (fun vals ex ψ => (by
              refine JL_normQ ⟨83, [(55, _), (56, _), (57, _), (58, _), (59, _), (60, _), (61, _), (62, _), (63, _), (64, _), (65, _), (66, _), (67, _), (68, _)], _⟩ (_ :: _ :: _ :: _ :: ψ) rfl rfl ?_
              refine JL_mul_to rfl rfl (IntWalk.u64_in _ (by rw [← Int.natCast_mul]; omega)) ?_
              rw [show ((((limbsOf x1).getD i 0 : Nat) : Int) * (((limbsOf x2).getD k 0 : Nat) : Int) : Int) = ((((limbsOf x1).getD i 0 * (limbsOf x2).getD k 0) : Nat) : Int) from (Int.natCast_mul _ _).symm]
              exact JL_nil (JE_stepV rfl ss0))), trivial⟩ (by kernel_rfl) (fun vals bs => ?_)
          refine JL_normL [_, _] ⟨83, [(55, _), (56, _), (57, _), (58, _), (59, _), (60, _), (61, _), (62, _), (63, _), (64, _), (65, _), (66, _), (67, _), (68, _)], _⟩ [box _ _ [_], box _ _ [_], box _ _ [_], osl _ _ _ _ _ _] [_, _, _, _] rfl rfl rfl rfl ?_
          refine JL_add_to rfl rfl (IntWalk.u64_in _ (by omega)) ?_
          refine JL_assign rfl ?_
          refine JL_nil_up 83 [box _ _ [_], box _ _ [_], box _ _ [_], osl _ _ _ _ _ _] [_, _, _, _] rfl rfl (by simp only [nrmF]; rfl) rfl rfl ?_
          refine JE_midS (o2.getD (i + k) 0 + c + ((limbsOf x1).getD i 0 * (limbsOf x2).getD k 0)) (by kernel_rfl) ?_ (by kernel_rfl) ?_
          · exact rfl
          · exact subset_app subset_nil ss0
        · have h54 := of_decide_eq_false hb
          refine JC_skip ?_
          refine JE_midS (o2.getD (i + k) 0 + c) (by kernel_rfl) ?_ (by kernel_rfl) ?_
          · show _ = _ + _; rw [getD_of_ge (limbsOf x2) k (by omega)]; omega
          · exact subset_app subset_nil ss0
      intro u t ht
      refine JC_norm ⟨83, [], [_, _, _, _, _, _, _, _, _, _, _, _, _, _, _, _, _, _, _, _, _, _, _, _, _, _, _, _, _, _, _, _, _, _, _, _, _, _, _, _, _, _, _, _, _, _, _, _, _, _, _, _, _, _, _, _, _, _, _, _, _, _, _, _, _, _, _, _, _, _, _, _, _, _, _, _, _, _, _, _, _, _, _]⟩ [box _ _ [_], box _ _ [_], box _ _ [_], osl _ _ _ _ _ _] [_, _, _, _] rfl rfl rfl ?_
      refine JC_seq ?_
      refine JC_region ?_
      refine JL_move rfl ?_
      refine JL_move rfl ?_
      refine JL_move rfl ?_
      refine JL_add_to rfl rfl (IntWalk.i64_in _ (by omega)) ?_
      refine JL_move rfl ?_
      refine JL_rem_to rfl rfl (by omega) (IntWalk.rem_in _ _ (by omega)) ?_
      refine JL_convInt us94 it87 rfl (IntWalk.u32_in _ (by omega)) ?_
      refine JL_idx (i + k) sl22 rfl rfl rfl (by omega) (Reads.own 3 rfl) (by first | (rw [u32s_length]; omega) | (rw [i64s_length]; omega)) ?_
      refine JL_storeU 3 (t % 1000000000) ty87 rfl rfl rfl (by omega) (by omega) ?_
      refine JL_done_up 83 [box _ _ [_], box _ _ [_], box _ _ [_], osl _ _ _ _ _ _] [_, _, _, _] rfl rfl (by simp only [nrmF]; rfl) rfl rfl ?_
      refine JC_region ?_
      refine JL_move rfl ?_
      refine JL_quo_to rfl rfl (by omega) (IntWalk.u64_quo _ _ (by omega)) ?_
      refine JL_assign rfl ?_
      refine JL_nil_up 83 [box _ _ [_], box _ _ [_], box _ _ [_], osl _ _ _ _ _ _] [_, _, _, _] rfl rfl (by simp only [nrmF]; rfl) rfl rfl ?_
      refine JE_block_normal ?_
      refine JE_then ?_
      refine JC_region ?_
      refine JL_move rfl ?_
      refine JL_add_to rfl rfl (IntWalk.i64_in _ (by omega)) ?_
      refine JL_assign rfl ?_
      refine JL_nil_up 83 [box _ _ [_], box _ _ [_], box _ _ [_], osl _ _ _ _ _ _] [_, _, _, _] rfl rfl (by simp only [nrmF]; rfl) rfl rfl ?_
      refine JE_nextS (k + 1, o2.set (i + k) (t % 1000000000), t / 1000000000) (by kernel_rfl) ?_ ?_ (by kernel_rfl) ?_
      · exact ⟨by omega, by rw [List.length_set]; omega, hd2.set _ _ (Nat.mod_lt _ (by decide)), Nat.div_lt_of_lt_mul (by omega), times_step (by omega) hv2 (by omega) rfl, fun l hl => by rw [Nat9.getD_set_ne o2 (i + k) l _ (by omega)]; exact hz2 l hl, fun h => by rw [Nat9.getD_set_ne o2 (i + k) _ _ (by omega)]; exact hz3 (by omega)⟩
      · first | omega | (dsimp only; omega)
      · exact subset_app subset_nil ss0
    · refine JL_move rfl ?_
      refine JL_guard_yes rfl rfl ?_
      refine JL_move rfl ?_
      refine JL_guard_yes rfl rfl ?_
      refine JL_gtr rfl rfl ?_
      refine JL_split (fun h37 => ?_) (fun h37 => ?_)
      · refine JL_pick_f rfl rfl ?_
        refine JL_done_up 83 [box _ _ [_], box _ _ [_], box _ _ [_], osl _ _ _ _ _ _] [_, _, _, _] rfl rfl (by simp only [nrmF]; rfl) rfl rfl ?_
        refine JC_true rfl ?_
        refine JC_skip ?_
        refine JE_then ?_
        refine JC_seq ?_
        refine JC_block ?_
        refine JC_seq ?_
        refine JC_region ?_
        refine JL_move rfl ?_
        refine JL_move rfl ?_
        refine JL_move rfl ?_
        refine JL_add_to rfl rfl (IntWalk.i64_in _ (by omega)) ?_
        refine JL_idx (i + k) sl22 rfl rfl rfl (by omega) (Reads.own 3 rfl) (by first | (rw [u32s_length]; omega) | (rw [i64s_length]; omega)) ?_
        refine JL_loadE ty87 rfl (Reads.own 3 rfl) (u32s_get (by omega)) ?_
        refine JL_convInt us87 it94 rfl (IntWalk.u64_in _ (by omega)) ?_
        refine JL_move rfl ?_
        refine JL_add_to rfl rfl (IntWalk.u64_in _ (by omega)) ?_
        refine JL_assign rfl ?_
        refine JL_done_up 83 [box _ _ [_], box _ _ [_], box _ _ [_], osl _ _ _ _ _ _] [_, _, _, _] rfl rfl (by simp only [nrmF]; rfl) rfl rfl ?_
        refine JC_seq ?_
        refine JC_seq ?_
        refine JC_region ?_
        refine JL_move rfl ?_
        refine JL_fieldAddr fo24_0 rfl ?_
        refine JL_load 1 ty22 rfl rfl rfl ?_
        refine JL_len sl22 rfl ?_
        refine JL_lss rfl rfl ?_
        refine JL_done_up 83 [box _ _ [_], box _ _ [_], box _ _ [_], osl _ _ _ _ _ _] [_, _, _, _] rfl rfl (by simp only [nrmF]; rfl) rfl rfl ?_
        refine JC_cutT ((Nat)) (fun (t : Nat) => t = o2.getD (i + k) 0 + c + ((limbsOf x1).getD i 0 * (limbsOf x2).getD k 0)) (fun u (t : Nat) => [none, none, none, none, none, none, none, none, none, some (.int .u64 (t : Nat)), none, none, none, none, none, none, none, none, none, none, none, none, none, none, none, none, none, none, none, none, none, none, none, none, none, none, none, none, none, none, none, none, none, none, none, none, none, none, none, none, none, none, none, none, none, some (u 55), some (u 56), some (u 57), some (u 58), some (u 59), some (u 60), some (u 61), some (u 62), some (u 63), some (u 64), some (u 65), some (u 66), some (u 67), some (u 68), some (u 69), none, none, none, none, none, none, none, none, none, none, none, none, none]) (fun (t : Nat) => [none, none, none, none]) (fun (t : Nat) => []) ?_ ?_
        · refine JC_cond rfl (fun hb => ?_) (fun hb => ?_)
          · have h54 := of_decide_eq_true hb
            refine JC_drawT mixed 14 [spV 55 [] _, spV 56 [] _, spV 57 [1] _, spV 58 [] _, spV 59 [2, 3] _, spV 60 [4] _, spV 61 [5] _, spV 62 [] _, spV 63 [7] _, spV 64 [] _, spV 65 [8, 9] _, spV 66 [10] _, spV 67 [11] _, spV 68 [6, 12] _] ⟨OblS_V (fun vals ex ψ => (by
                refine JL_normQ ⟨83, [(55, _), (56, _), (57, _), (58, _), (59, _), (60, _), (61, _), (62, _), (63, _), (64, _), (65, _), (66, _), (67, _), (68, _)], _⟩ (_ :: _ :: _ :: _ :: ψ) rfl rfl ?_
                refine JL_move rfl ?_
                exact JL_nil (JE_stepV rfl ss0))), OblS_V (fun vals ex ψ => (by
                refine JL_normQ ⟨83, [(55, _), (56, _), (57, _), (58, _), (59, _), (60, _), (61, _), (62, _), (63, _), (64, _), (65, _), (66, _), (67, _), (68, _)], _⟩ (_ :: _ :: _ :: _ :: ψ) rfl rfl ?_
                refine JL_fieldAddr fo24_0 rfl ?_
                exact JL_nil (JE_stepV rfl ss0))), OblS_V (fun vals ex ψ => (by
                refine JL_normQ ⟨83, [(55, _), (56, _), (57, _), (58, _), (59, _), (60, _), (61, _), (62, _), (63, _), (64, _), (65, _), (66, _), (67, _), (68, _)], _⟩ (_ :: _ :: _ :: _ :: ψ) rfl rfl ?_
                refine JL_load 0 ty22 rfl rfl rfl ?_
                exact JL_nil (JE_stepV rfl ss0))), OblS_V (fun vals ex ψ => (by
                refine JL_normQ ⟨83, [(55, _), (56, _), (57, _), (58, _), (59, _), (60, _), (61, _), (62, _), (63, _), (64, _), (65, _), (66, _), (67, _), (68, _)], _⟩ (_ :: _ :: _ :: _ :: ψ) rfl rfl ?_
                refine JL_move rfl ?_
                exact JL_nil (JE_stepV rfl ss0))), OblS_V (fun vals ex ψ => (by
                refine JL_normQ ⟨83, [(55, _), (56, _), (57, _), (58, _), (59, _), (60, _), (61, _), (62, _), (63, _), (64, _), (65, _), (66, _), (67, _), (68, _)], _⟩ (_ :: _ :: _ :: _ :: ψ) rfl rfl ?_
                refine JL_idx i sl22 rfl rfl rfl (by omega) (Reads.view (List.mem_cons_of_mem _ List.mem_cons_self)) (by first | (rw [u32s_length]; omega) | (rw [i64s_length]; omega)) ?_
                exact JL_nil (JE_stepV rfl ss0))), OblS_V (fun vals ex ψ => (by
                refine JL_normQ ⟨83, [(55, _), (56, _), (57, _), (58, _), (59, _), (60, _), (61, _), (62, _), (63, _), (64, _), (65, _), (66, _), (67, _), (68, _)], _⟩ (_ :: _ :: _ :: _ :: ψ) rfl rfl ?_
                refine JL_loadE ty87 rfl (Reads.view (List.mem_cons_of_mem _ List.mem_cons_self)) (u32s_get (by omega)) ?_
                exact JL_nil (JE_stepV rfl ss0))), OblS_V (fun vals ex ψ => (by
                refine JL_normQ ⟨83, [(55, _), (56, _), (57, _), (58, _), (59, _), (60, _), (61, _), (62, _), (63, _), (64, _), (65, _), (66, _), (67, _), (68, _)], _⟩ (_ :: _ :: _ :: _ :: ψ) rfl rfl ?_
                refine JL_convInt us87 it94 rfl (IntWalk.u64_in _ (by omega)) ?_
                exact JL_nil (JE_stepV rfl ss0))), OblS_V (fun vals ex ψ => (by
                refine JL_normQ ⟨83, [(55, _), (56, _), (57, _), (58, _), (59, _), (60, _), (61, _), (62, _), (63, _), (64, _), (65, _), (66, _), (67, _), (68, _)], _⟩ (_ :: _ :: _ :: _ :: ψ) rfl rfl ?_
                refine JL_fieldAddr fo24_0 rfl ?_
                exact JL_nil (JE_stepV rfl ss0))), OblS_V (fun vals ex ψ => (by
                refine JL_normQ ⟨83, [(55, _), (56, _), (57, _), (58, _), (59, _), (60, _), (61, _), (62, _), (63, _), (64, _), (65, _), (66, _), (67, _), (68, _)], _⟩ (_ :: _ :: _ :: _ :: ψ) rfl rfl ?_
                refine JL_load 1 ty22 rfl rfl rfl ?_
                exact JL_nil (JE_stepV rfl ss0))), OblS_V (fun vals ex ψ => (by
                refine JL_normQ ⟨83, [(55, _), (56, _), (57, _), (58, _), (59, _), (60, _), (61, _), (62, _), (63, _), (64, _), (65, _), (66, _), (67, _), (68, _)], _⟩ (_ :: _ :: _ :: _ :: ψ) rfl rfl ?_
                refine JL_move rfl ?_
                exact JL_nil (JE_stepV rfl ss0))), OblS_V (fun vals ex ψ => (by
                refine JL_normQ ⟨83, [(55, _), (56, _), (57, _), (58, _), (59, _), (60, _), (61, _), (62, _), (63, _), (64, _), (65, _), (66, _), (67, _), (68, _)], _⟩ (_ :: _ :: _ :: _ :: ψ) rfl rfl ?_
                refine JL_idx k sl22 rfl rfl rfl (by omega) (Reads.view List.mem_cons_self) (by first | (rw [u32s_length]; omega) | (rw [i64s_length]; omega)) ?_
                exact JL_nil (JE_stepV rfl ss0))), OblS_V (fun vals ex ψ => (by
                refine JL_normQ ⟨83, [(55, _), (56, _), (57, _), (58, _), (59, _), (60, _), (61, _), (62, _), (63, _), (64, _), (65, _), (66, _), (67, _), (68, _)], _⟩ (_ :: _ :: _ :: _ :: ψ) rfl rfl ?_
                refine JL_loadE ty87 rfl (Reads.view List.mem_cons_self) (u32s_get (by omega)) ?_
                exact JL_nil (JE_stepV rfl ss0))), OblS_V (fun vals ex ψ => (by
                refine JL_normQ ⟨83, [(55, _), (56, _), (57, _), (58, _), (59, _), (60, _), (61, _), (62, _), (63, _), (64, _), (65, _), (66, _), (67, _), (68, _)], _⟩ (_ :: _ :: _ :: _ :: ψ) rfl rfl ?_
                refine JL_convInt us87 it94 rfl (IntWalk.u64_in _ (by omega)) ?_
                exact JL_nil (JE_stepV rfl ss0))), OblS_V (fun vals ex ψ => (by
                refine JL_normQ ⟨83, [(55, _), (56, _), (57, _), (58, _), (59, _), (60, _), (61, _), (62, _), (63, _), (64, _), (65, _), (66, _), (67, _), (68, _)], _⟩ (_ :: _ :: _ :: _ :: ψ) rfl rfl ?_
                refine JL_mul_to rfl rfl (IntWalk.u64_in _ (by rw [← Int.natCast_mul]; omega)) ?_
                rw [show ((((limbsOf x1).getD i 0 : Nat) : Int) * (((limbsOf x2).getD k 0 : Nat) : Int) : Int) = ((((limbsOf x1).getD i 0 * (limbsOf x2).getD k 0) : Nat) : Int) from (Int.natCast_mul _ _).symm]
                exact JL_nil (JE_stepV rfl ss0))), trivial⟩ (by kernel_rfl) (fun vals bs => ?_)
            refine JL_normL [_, _] ⟨83, [(55, _), (56, _), (57, _), (58, _), (59, _), (60, _), (61, _), (62, _), (63, _), (64, _), (65, _), (66, _), (67, _), (68, _)], _⟩ [box _ _ [_], box _ _ [_], box _ _ [_], osl _ _ _ _ _ _] [_, _, _, _] rfl rfl rfl rfl ?_
            refine JL_add_to rfl rfl (IntWalk.u64_in _ (by omega)) ?_
            refine JL_assign rfl ?_
            refine JL_nil_up 83 [box _ _ [_], box _ _ [_], box _ _ [_], osl _ _ _ _ _ _] [_, _, _, _] rfl rfl (by simp only [nrmF]; rfl) rfl rfl ?_
            refine JE_midS (o2.getD (i + k) 0 + c + ((limbsOf x1).getD i 0 * (limbsOf x2).getD k 0)) (by kernel_rfl) ?_ (by kernel_rfl) ?_
            · exact rfl
            · exact subset_app subset_nil ss0
          · have h54 := of_decide_eq_false hb
            refine JC_skip ?_
            refine JE_midS (o2.getD (i + k) 0 + c) (by kernel_rfl) ?_ (by kernel_rfl) ?_
            · show _ = _ + _; rw [getD_of_ge (limbsOf x2) k (by omega)]; omega
            · exact subset_app subset_nil ss0
        intro u t ht
        refine JC_norm ⟨83, [], [_, _, _, _, _, _, _, _, _, _, _, _, _, _, _, _, _, _, _, _, _, _, _, _, _, _, _, _, _, _, _, _, _, _, _, _, _, _, _, _, _, _, _, _, _, _, _, _, _, _, _, _, _, _, _, _, _, _, _, _, _, _, _, _, _, _, _, _, _, _, _, _, _, _, _, _, _, _, _, _, _, _, _]⟩ [box _ _ [_], box _ _ [_], box _ _ [_], osl _ _ _ _ _ _] [_, _, _, _] rfl rfl rfl ?_
        refine JC_seq ?_
        refine JC_region ?_
        refine JL_move rfl ?_
        refine JL_move rfl ?_
        refine JL_move rfl ?_
        refine JL_add_to rfl rfl (IntWalk.i64_in _ (by omega)) ?_
        refine JL_move rfl ?_
        refine JL_rem_to rfl rfl (by omega) (IntWalk.rem_in _ _ (by omega)) ?_
        refine JL_convInt us94 it87 rfl (IntWalk.u32_in _ (by omega)) ?_
        refine JL_idx (i + k) sl22 rfl rfl rfl (by omega) (Reads.own 3 rfl) (by first | (rw [u32s_length]; omega) | (rw [i64s_length]; omega)) ?_
        refine JL_storeU 3 (t % 1000000000) ty87 rfl rfl rfl (by omega) (by omega) ?_
        refine JL_done_up 83 [box _ _ [_], box _ _ [_], box _ _ [_], osl _ _ _ _ _ _] [_, _, _, _] rfl rfl (by simp only [nrmF]; rfl) rfl rfl ?_
        refine JC_region ?_
        refine JL_move rfl ?_
        refine JL_quo_to rfl rfl (by omega) (IntWalk.u64_quo _ _ (by omega)) ?_
        refine JL_assign rfl ?_
        refine JL_nil_up 83 [box _ _ [_], box _ _ [_], box _ _ [_], osl _ _ _ _ _ _] [_, _, _, _] rfl rfl (by simp only [nrmF]; rfl) rfl rfl ?_
        refine JE_block_normal ?_
        refine JE_then ?_
        refine JC_region ?_
        refine JL_move rfl ?_
        refine JL_add_to rfl rfl (IntWalk.i64_in _ (by omega)) ?_
        refine JL_assign rfl ?_
        refine JL_nil_up 83 [box _ _ [_], box _ _ [_], box _ _ [_], osl _ _ _ _ _ _] [_, _, _, _] rfl rfl (by simp only [nrmF]; rfl) rfl rfl ?_
        refine JE_nextS (k + 1, o2.set (i + k) (t % 1000000000), t / 1000000000) (by kernel_rfl) ?_ ?_ (by kernel_rfl) ?_
        · exact ⟨by omega, by rw [List.length_set]; omega, hd2.set _ _ (Nat.mod_lt _ (by decide)), Nat.div_lt_of_lt_mul (by omega), times_step (by omega) hv2 (by omega) rfl, fun l hl => by rw [Nat9.getD_set_ne o2 (i + k) l _ (by omega)]; exact hz2 l hl, fun h => by rw [Nat9.getD_set_ne o2 (i + k) _ _ (by omega)]; exact hz3 (by omega)⟩
        · first | omega | (dsimp only; omega)
        · exact subset_app subset_nil ss0
      · refine JL_pick_f rfl rfl ?_
        refine JL_done_up 83 [box _ _ [_], box _ _ [_], box _ _ [_], osl _ _ _ _ _ _] [_, _, _, _] rfl rfl (by simp only [nrmF]; rfl) rfl rfl ?_
        refine JC_false rfl ?_
        refine JC_exit ?_
        refine JE_then_exit ?_
        refine JE_nextS_exit ?_
        refine JE_block_exit ?_
        refine JE_block_normal ?_
        refine JE_then ?_
        refine JC_region ?_
        refine JL_move rfl ?_
        refine JL_add_to rfl rfl (IntWalk.i64_in _ (by omega)) ?_
        refine JL_assign rfl ?_
        refine JL_nil_up 83 [box _ _ [_], box _ _ [_], box _ _ [_], osl _ _ _ _ _ _] [_, _, _, _] rfl rfl (by simp only [nrmF]; rfl) rfl rfl ?_
        refine JE_nextS (i + 1, o2) (by kernel_rfl) ?_ ?_ (by kernel_rfl) ?_
        · exact ⟨by omega, ho2, hd2, by
              obtain rfl : c = 0 := by omega
              rw [Nat.mul_zero, Nat.add_zero, List.take_of_length_le (l := (limbsOf x2)) (by omega)] at hv2
              rw [hv2, val_take_succ', Nat.add_mul, Nat.mul_assoc], fun l hl => hz2 l (by omega)⟩
        · first | omega | (dsimp only; omega)
        · exact subset_app subset_nil ss0
  · refine JL_done_up 83 [box _ _ [_], box _ _ [_], box _ _ [_], osl _ _ _ _ _ _] [_, _, _, _] rfl rfl (by simp only [nrmF]; rfl) rfl rfl ?_
    refine JC_false rfl ?_
    refine JC_exit ?_
    refine JE_then_exit ?_
    refine JE_nextS_exit ?_
    refine JE_block_exit ?_
    refine JE_then ?_
    refine JC_seq ?_
    refine JC_region ?_
    refine JL_move rfl ?_
    refine JL_build (cs := [_]) [(0, [_])] st24 ⟨⟨rfl, _, rfl, rfl⟩, rfl⟩ rfl ?_
    refine JL_callF' (Asks.cons (by first | exact holds_of_mem (by repeat (first | with_reducible exact mm0 | refine mmS ?_)) | (exact holds_of_own 3 rfl)) Asks.nil) (rnorm_con _ _ _ _ (x1 * x2) ⟨ho, U32.ofDig hd, by rw [hv, List.take_of_length_le (by omega), val_limbsOf, val_limbsOf], by omega⟩) rfl ca94 ⟨rfl, rfl⟩ ?_
    rintro _ _ ⟨ad82, cap82, rfl, hk82, hm82, rfl⟩
    refine JL_store (vs := [_]) 2 ty24 rfl rfl rfl (AllOne.cons rfl AllOne.nil) rfl (Nat.le_of_ble_eq_true rfl) ?_
    refine JL_done_up 83 [box _ _ [_], box _ _ [_], box _ _ [_], osl _ _ _ _ _ _] [_, _, _, _, _] rfl rfl (by simp only [nrmF]; rfl) rfl rfl ?_
    refine JC_ret ?_
    refine JE_ret (vs := [_]) [vCells ad82 (u32s (limbsOf (x1 * x2)))] Tryd.results68 ⟨RV.cell (vs := [_]) 2 ty24 rfl rfl ⟨rfl, trivial⟩, rfl⟩ ?_ ?_
    · exact ⟨ad82, cap82, rfl, hk82, hm82, rfl⟩
    · exact (all_cons (by repeat (first | with_reducible exact mm0 | refine mmS ?_)) all_nil)

end Go.Fw.K
