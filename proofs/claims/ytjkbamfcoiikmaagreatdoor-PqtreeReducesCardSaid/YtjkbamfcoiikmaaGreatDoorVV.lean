/- Walks through functions of the given program: each meets its contract. (Printed by a program of this repo.) -/
import Derived.Test.YtjkbamfcoiikmaaGreatDoorFwC
import Derived.Test.YtjkbamfcoiikmaaGreatDoorProg
namespace Go.Fw.VV
open Go Go.RowKit Go.Proofs Go.Nat9 Go.Fw
attribute [local irreducible] JC JL JE
theorem ca111 : callable Tryz.prog 111 = true := by kernel_rfl
theorem fo39_0 : fOf Tryz.prog 39 0 = some 0 := by kernel_rfl
theorem it43 : intTy Tryz.prog 43 = some .u64 := by kernel_rfl
theorem it79 : intTy Tryz.prog 79 = some .u32 := by kernel_rfl
theorem mixed : Tryz.prog.follows .mixedOrders = true := by kernel_rfl
theorem sl37 : slOf Tryz.prog 37 = some (79, 1, 4, [.int .u32 0]) := by kernel_rfl
theorem st39 : stOf Tryz.prog 39 = some ([(0, 1)], [.slice none 0 0]) := by kernel_rfl
theorem ty37 : tyOf Tryz.prog 37 = some (false, 1) := by kernel_rfl
theorem ty39 : tyOf Tryz.prog 39 = some (true, 1) := by kernel_rfl
theorem ty79 : tyOf Tryz.prog 79 = some (false, 1) := by kernel_rfl
theorem us43 : (Tryz.prog.underlying 43).isSome = true := by kernel_rfl
theorem us79 : (Tryz.prog.underlying 79).isSome = true := by kernel_rfl
theorem z39 : zeroOf Tryz.prog 39 = some [.slice none 0 0] := by kernel_rfl
end Go.Fw.VV
namespace Go.Fw.K
open Go Go.RowKit Go.Proofs Go.Nat9 Go.Fw Go.Fw.VV
attribute [local irreducible] JC JL JE

theorem rnorm_con (ad1 : Option Addr) (n1 c1 : Nat) (L1 : List Nat) (x1 : Nat) (g1 : NIn n1 L1 x1 1000000000) :
    ConF Tryz.prog 111 [.agg #[.slice ad1 n1 c1]] [vCells ad1 (u32s L1)]
      (LN x1) := by
 obtain ⟨rfl, hu, hx1, hb⟩ := g1; refine ConF_of Tryz.func111 rfl 57 (_ :: rp 56) rfl rfl ?_; intro w0; refine JC_st [] [_] ?_; refine JC_sr ?_; refine JL_box rfl rfl (fun b1 => ?_); refine JL_alloc z39 (fun b2 => ?_); refine JL_du 57 [box _ _ [_], box _ _ [_]] [_] ?_; refine JC_sr ?_; refine JL_a ?_; refine JL_dv 57 ?_; refine JC_sr ?_; refine JL_a ?_; refine JL_dv 57 ?_; refine JC_seq ?_; refine JC_sr ?_; refine JL_a ?_; refine JL_dv 57 ?_; refine JC_block ?_; refine JC_addNil 79 1 ?_; refine JC_nw [box _ _ [_], box _ _ [_], osl _ _ _ _ _ _] [_] ?_
 refine JC_loopS ((Nat) × (List Nat) × (Nat) × (Option Addr) × (Nat)) (fun (k, out, c, ad, cap) => (k ≤ L1.length ∨ (k = L1.length + 1 ∧ c = 0)) ∧ out.length = k ∧ Dig out ∧ c ≤ 4 ∧ val out + 1000000000 ^ k * c = val (L1.take k) ∧ k ≤ cap ∧ cap ≤ 9223372036854775807) (fun (k, out, c, ad, cap) => L1.length + 1 - k) (fun u (k, out, c, ad, cap) => (rn 3 (some (.slice ad k cap) :: some (.int .u64 (c : Nat)) :: some (.int .i64 (k : Nat)) :: sc u 6 32 []))) (fun (k, out, c, ad, cap) => (rn 2 [some (osl ad k cap 79 1 (u32s out))])) (fun (k, out, c, ad, cap) => []) (0, [], 0, none, 0) kr ?_ kr ?_ ?_
 · exact ⟨.inl (Nat.zero_le _), rfl, Dig.nil, by omega, by simp [val], by omega, by omega⟩
 · exact subset_nil
 intro u i hC; obtain ⟨k, out, c, ad, cap⟩ := i; obtain ⟨hk, ho, hd, hc, hv, hcap, hm⟩ := hC; refine JC_nm 57 [box _ _ [_], box _ _ [_], osl _ _ _ _ _ _] [_] ?_
 have hx := hu.getD k
 have hz : L1.length ≤ k → L1.getD k 0 = 0 := getD_of_ge L1 k
 refine JC_seq ?_; refine JC_sr ?_; refine JL_m ?_; refine JL_fieldAddr fo39_0 rfl ?_; refine JL_load 0 ty37 rfl rfl rfl ?_; refine JL_len sl37 rfl ?_; refine JL_lss rfl rfl ?_; refine JL_split (fun h10 => ?_) (fun h10 => ?_)
 ·refine JL_m ?_; refine JL_gn ?_; refine JL_gn ?_; refine JL_pick_t rfl rfl ?_; refine JL_dv 57 ?_; refine JC_true rfl ?_; refine JC_skip ?_; refine JE_then ?_; refine JC_seq ?_; refine JC_block ?_; refine JC_seq ?_; refine JC_sr ?_; refine JL_m ?_; refine JL_fieldAddr fo39_0 rfl ?_; refine JL_load 0 ty37 rfl rfl rfl ?_; refine JL_len sl37 rfl ?_; refine JL_lss rfl rfl ?_; refine JL_dv 57 ?_; refine JC_cutT ((Nat)) (fun (t : Nat) => t = c + L1.getD k 0) (fun u (t : Nat) => (rn 4 (some (.int .u64 (t : Nat)) :: rn 17 (sc u 22 8 [])))) (fun (t : Nat) => []) (fun (t : Nat) => []) ?_ ?_
  ·refine JC_cond rfl (fun hb => ?_) (fun hb => ?_)
   ·have h21 := of_decide_eq_true hb
    refine JC_region ?_; refine JL_m ?_; refine JL_fieldAddr fo39_0 rfl ?_; refine JL_load 0 ty37 rfl rfl rfl ?_; refine JL_m ?_; refine JL_idx k sl37 rfl rfl rfl om rdg lno ?_; refine JL_loadE ty79 rfl rdg (u32s_get om) ?_; refine JL_convInt us79 it43 rfl (IntWalk.u64_in _ om) ?_; refine JL_add_to rfl rfl (IntWalk.u64_in _ om) ?_; refine JL_a ?_; refine JL_nu 57 [box _ _ [_], box _ _ [_], osl _ _ _ _ _ _] [_] ?_; refine JE_midS (c + L1.getD k 0) kr ?_ kr ?_
    · exact rfl
    · exact subset_app subset_nil ss0
   ·have h21 := of_decide_eq_false hb
    refine JC_skip ?_; refine JE_midS (c) kr ?_ kr ?_
    · show _ = _ + _; rw [getD_of_ge L1 k om]; omega
    · exact subset_app subset_nil ss0
  intro u t ht; refine JC_nm 57 [box _ _ [_], box _ _ [_], osl _ _ _ _ _ _] [_] ?_; refine JC_sr ?_; refine JL_m ?_; refine JL_m ?_; refine JL_rem_to rfl rfl om (IntWalk.rem_in _ _ om) ?_; refine JL_convInt us43 it79 rfl (IntWalk.u32_in _ om) ?_; refine JL_build1 sl37 rfl rfl (fun g34 => ?_); refine JL_appendU (L := _) 2 3 (t % 1000000000) sl37 rfl rfl rfl rfl om om om (fun ad35 cap35 hc35 => ?_); refine JL_dropAt 3 ?_; refine JL_norm _ [box _ _ [_], box _ _ [_], osl _ _ _ _ _ _] [_] rfl rfl rfl ?_; refine JL_a ?_; refine JL_du 57 [box _ _ [_], box _ _ [_], osl _ _ _ _ _ _] [_] ?_; refine JC_region ?_; refine JL_m ?_; refine JL_quo_to rfl rfl om (IntWalk.u64_quo _ _ om) ?_; refine JL_a ?_; refine JL_nv 57 ?_; refine JE_block_normal ?_; refine JE_then ?_; refine JC_region ?_; refine JL_m ?_; refine JL_add_to rfl rfl i6o ?_; refine JL_a ?_; refine JL_nv 57 ?_; refine JE_nextS (k + 1, out ++ [t % 1000000000], t / 1000000000, ad35, cap35) kr ?_ ?_ kr ?_
  · exact ⟨by omega, by rw [len_snoc]; omega, dig_snoc hd (Nat.mod_lt _ (by decide)), by omega, limbs_step ho hv ht, by omega, by omega⟩
  · first | omega | (dsimp only; omega)
  · exact subset_app subset_nil ss0
 ·refine JL_m ?_; refine JL_gy ?_; refine JL_m ?_; refine JL_gy ?_; refine JL_gtr rfl rfl ?_; refine JL_split (fun h13 => ?_) (fun h13 => ?_)
  ·refine JL_pick_f rfl rfl ?_; refine JL_dv 57 ?_; refine JC_true rfl ?_; refine JC_skip ?_; refine JE_then ?_; refine JC_seq ?_; refine JC_block ?_; refine JC_seq ?_; refine JC_sr ?_; refine JL_m ?_; refine JL_fieldAddr fo39_0 rfl ?_; refine JL_load 0 ty37 rfl rfl rfl ?_; refine JL_len sl37 rfl ?_; refine JL_lss rfl rfl ?_; refine JL_dv 57 ?_; refine JC_cutT ((Nat)) (fun (t : Nat) => t = c + L1.getD k 0) (fun u (t : Nat) => (rn 4 (some (.int .u64 (t : Nat)) :: rn 17 (sc u 22 8 [])))) (fun (t : Nat) => []) (fun (t : Nat) => []) ?_ ?_
   ·refine JC_cond rfl (fun hb => ?_) (fun hb => ?_)
    ·have h21 := of_decide_eq_true hb
     refine JC_region ?_; refine JL_m ?_; refine JL_fieldAddr fo39_0 rfl ?_; refine JL_load 0 ty37 rfl rfl rfl ?_; refine JL_m ?_; refine JL_idx k sl37 rfl rfl rfl om rdg lno ?_; refine JL_loadE ty79 rfl rdg (u32s_get om) ?_; refine JL_convInt us79 it43 rfl (IntWalk.u64_in _ om) ?_; refine JL_add_to rfl rfl (IntWalk.u64_in _ om) ?_; refine JL_a ?_; refine JL_nu 57 [box _ _ [_], box _ _ [_], osl _ _ _ _ _ _] [_] ?_; refine JE_midS (c + L1.getD k 0) kr ?_ kr ?_
     · exact rfl
     · exact subset_app subset_nil ss0
    ·have h21 := of_decide_eq_false hb
     refine JC_skip ?_; refine JE_midS (c) kr ?_ kr ?_
     · show _ = _ + _; rw [getD_of_ge L1 k om]; omega
     · exact subset_app subset_nil ss0
   intro u t ht; refine JC_nm 57 [box _ _ [_], box _ _ [_], osl _ _ _ _ _ _] [_] ?_; refine JC_sr ?_; refine JL_m ?_; refine JL_m ?_; refine JL_rem_to rfl rfl om (IntWalk.rem_in _ _ om) ?_; refine JL_convInt us43 it79 rfl (IntWalk.u32_in _ om) ?_; refine JL_build1 sl37 rfl rfl (fun g34 => ?_); refine JL_appendU (L := _) 2 3 (t % 1000000000) sl37 rfl rfl rfl rfl om om om (fun ad35 cap35 hc35 => ?_); refine JL_dropAt 3 ?_; refine JL_norm _ [box _ _ [_], box _ _ [_], osl _ _ _ _ _ _] [_] rfl rfl rfl ?_; refine JL_a ?_; refine JL_du 57 [box _ _ [_], box _ _ [_], osl _ _ _ _ _ _] [_] ?_; refine JC_region ?_; refine JL_m ?_; refine JL_quo_to rfl rfl om (IntWalk.u64_quo _ _ om) ?_; refine JL_a ?_; refine JL_nv 57 ?_; refine JE_block_normal ?_; refine JE_then ?_; refine JC_region ?_; refine JL_m ?_; refine JL_add_to rfl rfl i6o ?_; refine JL_a ?_; refine JL_nv 57 ?_; refine JE_nextS (k + 1, out ++ [t % 1000000000], t / 1000000000, ad35, cap35) kr ?_ ?_ kr ?_
   · exact ⟨by omega, by rw [len_snoc]; omega, dig_snoc hd (Nat.mod_lt _ (by decide)), by omega, limbs_step ho hv ht, by omega, by omega⟩
   · first | omega | (dsimp only; omega)
   · exact subset_app subset_nil ss0
  ·refine JL_pick_f rfl rfl ?_; refine JL_dv 57 ?_; refine JC_false rfl ?_; refine JC_exit ?_; refine JE_then_exit ?_; refine JE_nextS_exit ?_; refine JE_block_exit ?_; refine JE_then ?_; refine JC_seq ?_; refine JC_block ?_
   have hvv : val out = x1 := by
     obtain rfl : c = 0 := by omega
     rw [Nat.mul_zero, Nat.add_zero, List.take_of_length_le om] at hv; rw [hv, hx1]
   refine JC_give 2 rfl ?_; refine JC_nw [box _ _ [_], box _ _ [_]] [_, _] ?_; refine JC_loopS ((Nat)) (fun (m : Nat) => m ≤ out.length ∧ trimL (out.take m) = trimL out) (fun (m : Nat) => m) (fun u (m : Nat) => (rn 3 (some (.slice ad m cap) :: rn 34 (sc u 38 17 [])))) (fun (m : Nat) => []) (fun (m : Nat) => []) (k) kr ?_ kr ?_ ?_
   · exact ⟨by omega, by rw [List.take_of_length_le om]⟩
   · exact subset_nil
   intro u m hC; obtain ⟨hmL, hT⟩ := hC; refine JC_nm 57 [box _ _ [_], box _ _ [_]] [_, _] ?_; refine JC_seq ?_; refine JC_sr ?_; refine JL_m ?_; refine JL_len sl37 rfl ?_; refine JL_gtr rfl rfl ?_; refine JL_split (fun h40 => ?_) (fun h40 => ?_)
   ·refine JL_m ?_; refine JL_gy ?_; refine JL_m ?_; refine JL_gy ?_; refine JL_m ?_; refine JL_gy ?_; refine JL_len sl37 rfl ?_; refine JL_gy ?_; refine JL_sub_to rfl rfl i6o ?_; refine JL_gy ?_; refine JL_idx (m - 1) sl37 rfl rfl om om (Reads.view List.mem_cons_self) lno ?_; refine JL_gy ?_; refine JL_loadE ty79 rfl (Reads.view List.mem_cons_self) (u32s_get om) ?_; refine JL_gy ?_; refine JL_eql rfl rfl ?_; refine JL_split (fun h48 => ?_) (fun h48 => ?_)
    ·refine JL_pick_t rfl rfl ?_; refine JL_dv 57 ?_; refine JC_true rfl ?_; refine JC_skip ?_; refine JE_then ?_; refine JC_block ?_; refine JC_region ?_; refine JL_m ?_; refine JL_m ?_; refine JL_len sl37 rfl ?_; refine JL_sub_to rfl rfl i6o ?_; refine JL_sliceTo (m - 1) sl37 rfl rfl om om ?_; refine JL_a ?_; refine JL_nu 57 [box _ _ [_], box _ _ [_]] [_, _] ?_; refine JE_block_normal ?_; refine JE_nextS (m - 1) kr ?_ ?_ kr ?_
     · exact ⟨by omega, by rw [← hT]; have h := trimL_take out (m - 1) om om; rw [Nat.sub_add_cancel om] at h; exact h.symm⟩
     · first | omega | (dsimp only; omega)
     · exact subset_app subset_nil ss0
    ·refine JL_pick_t rfl rfl ?_; refine JL_dv 57 ?_; refine JC_false rfl ?_; refine JC_exit ?_; refine JE_then_exit ?_; refine JE_nextS_exit ?_; refine JE_block_exit ?_; refine JE_then ?_; refine JC_sr ?_; refine JL_m ?_; refine JL_build (cs := [_]) [(0, [_])] st39 ⟨⟨rfl, _, rfl, rfl⟩, rfl⟩ rfl ?_; refine JL_store (vs := [_]) 1 ty39 rfl rfl rfl ao1 rfl bleq ?_; refine JL_du 57 [box _ _ [_], box _ _ [_]] [_, _] ?_; refine JC_ret ?_
     have hfin : limbsOf x1 = out.take m := by
       rw [← hvv, ← trimL_spec out hd, ← hT]
       rcases Nat.eq_zero_or_pos m with h0 | h0
       · rw [h0]; rfl
       · have h := trimL_stop out (m - 1) om om
         rwa [Nat.sub_add_cancel h0] at h
     have hlen : (limbsOf x1).length = m := by rw [hfin, List.length_take]; omega
     refine JE_viewTake m List.mem_cons_self ?_; rw [u32s_take, ← hfin]; refine JE_ret (vs := [_]) [vCells ad (u32s (limbsOf x1))] Tryz.results111 ⟨RV.cell (vs := [_]) 1 ty39 rfl rfl ⟨rfl, trivial⟩, rfl⟩ ?_ ?_
     · exact ⟨ad, cap, by rw [hlen]; rfl, by omega, hm, rfl⟩
     · exact (all_cons am all_nil)
   ·refine JL_m ?_; refine JL_gn ?_; refine JL_gn ?_; refine JL_gn ?_; refine JL_gn ?_; refine JL_gn ?_; refine JL_gn ?_; refine JL_gn ?_; refine JL_pick_f rfl rfl ?_; refine JL_dv 57 ?_; refine JC_false rfl ?_; refine JC_exit ?_; refine JE_then_exit ?_; refine JE_nextS_exit ?_; refine JE_block_exit ?_; refine JE_then ?_; refine JC_sr ?_; refine JL_m ?_; refine JL_build (cs := [_]) [(0, [_])] st39 ⟨⟨rfl, _, rfl, rfl⟩, rfl⟩ rfl ?_; refine JL_store (vs := [_]) 1 ty39 rfl rfl rfl ao1 rfl bleq ?_; refine JL_du 57 [box _ _ [_], box _ _ [_]] [_, _] ?_; refine JC_ret ?_
    have hfin : limbsOf x1 = out.take m := by
      rw [← hvv, ← trimL_spec out hd, ← hT]
      rcases Nat.eq_zero_or_pos m with h0 | h0
      · rw [h0]; rfl
      · have h := trimL_stop out (m - 1) om om
        rwa [Nat.sub_add_cancel h0] at h
    have hlen : (limbsOf x1).length = m := by rw [hfin, List.length_take]; omega
    refine JE_viewTake m List.mem_cons_self ?_; rw [u32s_take, ← hfin]; refine JE_ret (vs := [_]) [vCells ad (u32s (limbsOf x1))] Tryz.results111 ⟨RV.cell (vs := [_]) 1 ty39 rfl rfl ⟨rfl, trivial⟩, rfl⟩ ?_ ?_
    · exact ⟨ad, cap, by rw [hlen]; rfl, by omega, hm, rfl⟩
    · exact (all_cons am all_nil)

theorem rof_con (n : Nat) (hn : n < 18446744073709551616) :
    ConF Tryz.prog 81 [.int .u64 (n : Nat)] []
      (LN n) := by
 refine ConF_of Tryz.func81 rfl 17 (_ :: rp 16) rfl rfl ?_; intro w0; refine JC_st [] [] ?_; refine JC_sr ?_; refine JL_alloc z39 (fun b2 => ?_); refine JL_du 17 [box _ _ [_]] [] ?_; refine JC_sr ?_; refine JL_m ?_; refine JL_rem_to rfl rfl om (rem_nat n 1000000000) ?_; refine JL_convInt us43 it79 rfl (IntWalk.u32_in _ om) ?_; refine JL_m ?_; refine JL_quo_to rfl rfl om (quo_nat_u64 n 1000000000 om) ?_; refine JL_rem_to rfl rfl om (rem_nat (n / 1000000000) 1000000000) ?_; refine JL_convInt us43 it79 rfl (IntWalk.u32_in _ om) ?_; refine JL_m ?_; refine JL_quo_to rfl rfl om (quo_nat_u64 n 1000000000 om) ?_; refine JL_quo_to rfl rfl om (quo_nat_u64 (n / 1000000000) 1000000000 om) ?_; refine JL_convInt us43 it79 rfl (IntWalk.u32_in _ om) ?_; refine JL_buildN (cs0 := [.int .u32 0, .int .u32 0, .int .u32 0]) (cs := [_, _, _]) [(0, [_]), (1, [_]), (2, [_])] sl37 kr ⟨⟨rfl, _, rfl, rfl⟩, ⟨rfl, _, rfl, rfl⟩, ⟨rfl, _, rfl, rfl⟩, rfl⟩ rfl rfl rfl rfl (fun g14 => ?_)
 refine JL_norm _ [box _ _ [_], osl _ _ _ _ _ (u32s ([n % 1000000000, n / 1000000000 % 1000000000, n / 1000000000 / 1000000000]))] [] rfl rfl rfl ?_; refine JL_build (cs := [_]) [(0, [_])] st39 ⟨⟨rfl, _, rfl, rfl⟩, rfl⟩ rfl ?_; refine JL_callF' (Asks.cons ((holds_of_own 1 rfl)) Asks.nil) (rnorm_con _ 3 _ _ n ⟨rfl, U32.ofDig (Dig.cons om (Dig.cons om (Dig.cons om Dig.nil))), val_of3 n, by omega⟩) rfl ca111 ⟨rfl, rfl⟩ ?_; rintro _ _ ⟨ad16, cap16, rfl, hk16, hm16, rfl⟩; refine JL_store (vs := [_]) 0 ty39 rfl rfl rfl ao1 rfl bleq ?_; refine JL_du 17 [box _ _ [_], osl _ _ _ _ _ _] [_] ?_; refine JC_ret ?_; refine JE_ret (vs := [_]) [vCells ad16 (u32s (limbsOf (n)))] Tryz.results81 ⟨RV.cell (vs := [_]) 0 ty39 rfl rfl ⟨rfl, trivial⟩, rfl⟩ ?_ ?_
 · exact ⟨ad16, cap16, rfl, hk16, hm16, rfl⟩
 · exact (all_cons am all_nil)

theorem rmul_con (ad1 : Option Addr) (n1 c1 : Nat) (L1 : List Nat) (x1 : Nat) (g1 : NIn n1 L1 x1 200000000) (ad2 : Option Addr) (n2 c2 : Nat) (L2 : List Nat) (x2 : Nat) (g2 : NIn n2 L2 x2 200000000) (z : Nat) (hz : x1 * x2 = z) :
    ConF Tryz.prog 82 [.agg #[.slice ad1 n1 c1], .agg #[.slice ad2 n2 c2]] [vCells ad1 (u32s L1), vCells ad2 (u32s L2)]
      (LN z) := by
 subst hz
 have hs1 := g1.sz
 have hl1 := g1.le
 have hs2 := g2.sz
 have hl2 := g2.le
 refine ConF_of Tryz.func82 rfl 83 (_ :: _ :: rp 81) rfl rfl ?_; intro w0; refine JC_st [] [_, _] ?_; refine JC_sr ?_; refine JL_box rfl rfl (fun b2 => ?_); refine JL_box rfl rfl (fun b3 => ?_); refine JL_alloc z39 (fun b4 => ?_); refine JL_du 83 [box _ _ [_], box _ _ [_], box _ _ [_]] [_, _] ?_; refine JC_sr ?_; refine JL_loadA (vs := [_]) 0 ty39 rfl rfl ⟨rfl, trivial⟩ ?_; refine JL_callF' (Asks.cons (holds_of_mem am) Asks.nil) (rnorm_con _ _ _ _ _ (g1.mono om)) rfl ca111 ⟨rfl, rfl⟩ ?_; rintro _ _ ⟨ad11, cap11, rfl, hk11, hm11, rfl⟩; refine JL_store (vs := [_]) 0 ty39 rfl rfl rfl ao1 rfl bleq ?_; refine JL_du 83 [box _ _ [_], box _ _ [_], box _ _ [_]] [_, _, _] ?_; refine JC_sr ?_; refine JL_loadA (vs := [_]) 1 ty39 rfl rfl ⟨rfl, trivial⟩ ?_; refine JL_callF' (Asks.cons (holds_of_mem am) Asks.nil) (rnorm_con _ _ _ _ _ (g2.mono om)) rfl ca111 ⟨rfl, rfl⟩ ?_; rintro _ _ ⟨ad13, cap13, rfl, hk13, hm13, rfl⟩; refine JL_store (vs := [_]) 1 ty39 rfl rfl rfl ao1 rfl bleq ?_
 refine JL_du 83 [box _ _ [_], box _ _ [_], box _ _ [_]] [_, _, _, _] ?_; refine JC_sr ?_; refine JL_fieldAddr fo39_0 rfl ?_; refine JL_load 0 ty37 rfl rfl rfl ?_; refine JL_len sl37 rfl ?_; refine JL_fieldAddr fo39_0 rfl ?_; refine JL_load 1 ty37 rfl rfl rfl ?_; refine JL_len sl37 rfl ?_; refine JL_add_to rfl rfl i6o ?_; refine JL_add_to rfl rfl i6o ?_; refine JL_make1 ((limbsOf x1).length + (limbsOf x2).length + 1) ((limbsOf x1).length + (limbsOf x2).length + 1) sl37 rfl rfl om om om om om (fun g22 => ?_); rw [u32s_replicate]; refine JL_a ?_; refine JL_du 83 [box _ _ [_], box _ _ [_], box _ _ [_], osl _ _ _ _ _ _] [_, _, _, _] ?_; refine JC_seq ?_; refine JC_sr ?_; refine JL_a ?_; refine JL_dv 83 ?_; refine JC_block ?_
 refine JC_loopS ((Nat) × (List Nat)) (fun (i, out) => i ≤ (limbsOf x1).length ∧ out.length = (limbsOf x1).length + (limbsOf x2).length + 1 ∧ Dig out ∧ val out = val ((limbsOf x1).take i) * val (limbsOf x2) ∧ ∀ l, i + (limbsOf x2).length ≤ l → out.getD l 0 = 0) (fun (i, out) => (limbsOf x1).length - i) (fun u (i, out) => (rn 6 (some (.int .i64 (i : Nat)) :: sc u 7 3 (rn 13 (sc u 23 57 []))))) (fun (i, out) => (rn 3 [some (osl (some ⟨g22, 0, none⟩) ((limbsOf x1).length + (limbsOf x2).length + 1) ((limbsOf x1).length + (limbsOf x2).length + 1) 79 1 (u32s out))])) (fun (i, out) => []) (0, List.replicate ((limbsOf x1).length + (limbsOf x2).length + 1) 0) kr ?_ kr ?_ ?_
 · exact ⟨Nat.zero_le _, List.length_replicate, Dig.replicate _, by rw [val_replicate]; simp [val], fun l _ => getD_replicate _ l⟩
 · exact subset_nil
 intro u i hC; obtain ⟨i, out⟩ := i; obtain ⟨hi, ho, hd, hv, hz⟩ := hC; refine JC_nm 83 [box _ _ [_], box _ _ [_], box _ _ [_], osl _ _ _ _ _ _] [_, _, _, _] ?_
 have hX := (dig_limbsOf x1).getD i
 refine JC_seq ?_; refine JC_sr ?_; refine JL_m ?_; refine JL_fieldAddr fo39_0 rfl ?_; refine JL_load 0 ty37 rfl rfl rfl ?_; refine JL_len sl37 rfl ?_; refine JL_lss rfl rfl ?_; refine JL_split (fun h27 => ?_) (fun h27 => ?_)
 ·refine JL_dv 83 ?_; refine JC_true rfl ?_; refine JC_skip ?_; refine JE_then ?_; refine JC_seq ?_; refine JC_block ?_; refine JC_sr ?_; refine JL_a ?_; refine JL_dv 83 ?_; refine JC_sr ?_; refine JL_a ?_; refine JL_dv 83 ?_; refine JC_block ?_
  refine JC_loopS ((Nat) × (List Nat) × (Nat)) (fun (k, o2, c) => (k ≤ (limbsOf x2).length ∨ (k = (limbsOf x2).length + 1 ∧ c = 0)) ∧ o2.length = (limbsOf x1).length + (limbsOf x2).length + 1 ∧ Dig o2 ∧ c < 1000000000 ∧ val o2 + 1000000000 ^ (i + k) * c = val ((limbsOf x1).take i) * val (limbsOf x2) + 1000000000 ^ i * ((limbsOf x1).getD i 0 * val ((limbsOf x2).take k)) ∧ (∀ l, i + (limbsOf x2).length + 1 ≤ l → o2.getD l 0 = 0) ∧ (k ≤ (limbsOf x2).length → o2.getD (i + (limbsOf x2).length) 0 = 0)) (fun (k, o2, c) => (limbsOf x2).length + 1 - k) (fun u (k, o2, c) => (rn 7 (some (.int .u64 (c : Nat)) :: some (.int .i64 (k : Nat)) :: some (u 9) :: rn 20 (sc u 30 50 [])))) (fun (k, o2, c) => (rn 3 [some (osl (some ⟨g22, 0, none⟩) ((limbsOf x1).length + (limbsOf x2).length + 1) ((limbsOf x1).length + (limbsOf x2).length + 1) 79 1 (u32s o2))])) (fun (k, o2, c) => []) (0, out, 0) kr ?_ kr ?_ ?_
  · exact ⟨.inl (Nat.zero_le _), ho, hd, by omega, by rw [hv]; simp [val], fun l hl => hz l om, fun _ => hz _ (Nat.le_refl _)⟩
  · exact subset_nil
  intro u i hC; obtain ⟨k, o2, c⟩ := i; obtain ⟨hk, ho2, hd2, hc, hv2, hz2, hz3⟩ := hC; refine JC_nm 83 [box _ _ [_], box _ _ [_], box _ _ [_], osl _ _ _ _ _ _] [_, _, _, _] ?_
  have hY := (dig_limbsOf x2).getD k
  have hO := hd2.getD (i + k)
  have hxy : ((limbsOf x1).getD i 0 * (limbsOf x2).getD k 0) ≤ 999999999 * 999999999 := Nat.mul_le_mul om om
  have hct := times_carry hX hY hO hc
  have hge : (limbsOf x2).length ≤ k → ((limbsOf x1).getD i 0 * (limbsOf x2).getD k 0) = 0 := fun h => by rw [getD_of_ge (limbsOf x2) k h, Nat.mul_zero]
  have ho0 : k = (limbsOf x2).length → o2.getD (i + k) 0 = 0 := fun h => by rw [h]; exact hz3 om
  refine JC_seq ?_; refine JC_sr ?_; refine JL_m ?_; refine JL_fieldAddr fo39_0 rfl ?_; refine JL_load 1 ty37 rfl rfl rfl ?_; refine JL_len sl37 rfl ?_; refine JL_lss rfl rfl ?_; refine JL_split (fun h34 => ?_) (fun h34 => ?_)
  ·refine JL_m ?_; refine JL_gn ?_; refine JL_gn ?_; refine JL_pick_t rfl rfl ?_; refine JL_dv 83 ?_; refine JC_true rfl ?_; refine JC_skip ?_; refine JE_then ?_; refine JC_seq ?_; refine JC_block ?_; refine JC_sr ?_; refine JL_m ?_; refine JL_m ?_; refine JL_m ?_; refine JL_add_to rfl rfl i6o ?_; refine JL_idx (i + k) sl37 rfl rfl rfl om (Reads.own 3 rfl) lno ?_; refine JL_loadE ty79 rfl (Reads.own 3 rfl) (u32s_get om) ?_; refine JL_convInt us79 it43 rfl (IntWalk.u64_in _ om) ?_; refine JL_m ?_; refine JL_add_to rfl rfl (IntWalk.u64_in _ om) ?_; refine JL_a ?_; refine JL_du 83 [box _ _ [_], box _ _ [_], box _ _ [_], osl _ _ _ _ _ _] [_, _, _, _] ?_; refine JC_seq ?_; refine JC_sr ?_; refine JL_m ?_; refine JL_fieldAddr fo39_0 rfl ?_; refine JL_load 1 ty37 rfl rfl rfl ?_; refine JL_len sl37 rfl ?_; refine JL_lss rfl rfl ?_; refine JL_dv 83 ?_
   refine JC_cutT ((Nat)) (fun (t : Nat) => t = o2.getD (i + k) 0 + c + ((limbsOf x1).getD i 0 * (limbsOf x2).getD k 0)) (fun u (t : Nat) => (rn 9 (some (.int .u64 (t : Nat)) :: rn 45 (sc u 55 15 [])))) (fun (t : Nat) => []) (fun (t : Nat) => []) ?_ ?_
   ·refine JC_cond rfl (fun hb => ?_) (fun hb => ?_)
    ·have h54 := of_decide_eq_true hb
     refine JC_drawT mixed 14 [spV 55 [] _, spV 56 [] _, spV 57 [1] _, spV 58 [] _, spV 59 [2, 3] _, spV 60 [4] _, spV 61 [5] _, spV 62 [] _, spV 63 [7] _, spV 64 [] _, spV 65 [8, 9] _, spV 66 [10] _, spV 67 [11] _, spV 68 [6, 12] _] ⟨oM, OblS_V (fun vals ex ψ => (by refine JL_normQ _ (_ :: _ :: _ :: _ :: ψ) rfl rfl ?_; refine JL_fieldAddr fo39_0 rfl ?_; exact vz rfl)), OblS_V (fun vals ex ψ => (by refine JL_normQ _ (_ :: _ :: _ :: _ :: ψ) rfl rfl ?_; refine JL_load 0 ty37 rfl rfl rfl ?_; exact vz rfl)), oM, OblS_V (fun vals ex ψ => (by refine JL_normQ _ (_ :: _ :: _ :: _ :: ψ) rfl rfl ?_; refine JL_idx i sl37 rfl rfl rfl om (Reads.view (List.mem_cons_of_mem _ List.mem_cons_self)) lno ?_; exact vz rfl)), OblS_V (fun vals ex ψ => (by refine JL_normQ _ (_ :: _ :: _ :: _ :: ψ) rfl rfl ?_; refine JL_loadE ty79 rfl (Reads.view (List.mem_cons_of_mem _ List.mem_cons_self)) (u32s_get om) ?_; exact vz rfl)), OblS_V (fun vals ex ψ => (by refine JL_normQ _ (_ :: _ :: _ :: _ :: ψ) rfl rfl ?_; refine JL_convInt us79 it43 rfl (IntWalk.u64_in _ om) ?_; exact vz rfl)), OblS_V (fun vals ex ψ => (by refine JL_normQ _ (_ :: _ :: _ :: _ :: ψ) rfl rfl ?_; refine JL_fieldAddr fo39_0 rfl ?_; exact vz rfl)), OblS_V (fun vals ex ψ => (by refine JL_normQ _ (_ :: _ :: _ :: _ :: ψ) rfl rfl ?_; refine JL_load 1 ty37 rfl rfl rfl ?_; exact vz rfl)), oM, OblS_V (fun vals ex ψ => (by refine JL_normQ _ (_ :: _ :: _ :: _ :: ψ) rfl rfl ?_; refine JL_idx k sl37 rfl rfl rfl om (Reads.view List.mem_cons_self) lno ?_; exact vz rfl)), OblS_V (fun vals ex ψ => (by
       refine JL_normQ _ (_ :: _ :: _ :: _ :: ψ) rfl rfl ?_; refine JL_loadE ty79 rfl (Reads.view List.mem_cons_self) (u32s_get om) ?_; exact vz rfl)), OblS_V (fun vals ex ψ => (by refine JL_normQ _ (_ :: _ :: _ :: _ :: ψ) rfl rfl ?_; refine JL_convInt us79 it43 rfl (IntWalk.u64_in _ om) ?_; exact vz rfl)), OblS_V (fun vals ex ψ => (by refine JL_mul_to rfl rfl (IntWalk.u64_in _ (by rw [← Int.natCast_mul]; omega)) ?_; rw [show ((((limbsOf x1).getD i 0 : Nat) : Int) * (((limbsOf x2).getD k 0 : Nat) : Int) : Int) = ((((limbsOf x1).getD i 0 * (limbsOf x2).getD k 0) : Nat) : Int) from (Int.natCast_mul _ _).symm]; exact vz rfl)), trivial⟩ kr (fun vals bs => ?_)
     refine JL_normL [_, _] ⟨83, [(55, _), (56, _), (57, _), (58, _), (59, _), (60, _), (61, _), (62, _), (63, _), (64, _), (65, _), (66, _), (67, _), (68, _)], _⟩ [box _ _ [_], box _ _ [_], box _ _ [_], osl _ _ _ _ _ _] [_, _, _, _] rfl rfl rfl rfl ?_; refine JL_add_to rfl rfl (IntWalk.u64_in _ om) ?_; refine JL_a ?_; refine JL_nu 83 [box _ _ [_], box _ _ [_], box _ _ [_], osl _ _ _ _ _ _] [_, _, _, _] ?_; refine JE_midS (o2.getD (i + k) 0 + c + ((limbsOf x1).getD i 0 * (limbsOf x2).getD k 0)) kr ?_ kr ?_
     · exact rfl
     · exact subset_app subset_nil ss0
    ·have h54 := of_decide_eq_false hb
     refine JC_skip ?_; refine JE_midS (o2.getD (i + k) 0 + c) kr ?_ kr ?_
     · show _ = _ + _; rw [getD_of_ge (limbsOf x2) k om]; omega
     · exact subset_app subset_nil ss0
   intro u t ht; refine JC_nm 83 [box _ _ [_], box _ _ [_], box _ _ [_], osl _ _ _ _ _ _] [_, _, _, _] ?_; refine JC_sr ?_; refine JL_m ?_; refine JL_m ?_; refine JL_m ?_; refine JL_add_to rfl rfl i6o ?_; refine JL_m ?_; refine JL_rem_to rfl rfl om (IntWalk.rem_in _ _ om) ?_; refine JL_convInt us43 it79 rfl (IntWalk.u32_in _ om) ?_; refine JL_idx (i + k) sl37 rfl rfl rfl om (Reads.own 3 rfl) lno ?_; refine JL_storeU 3 (t % 1000000000) ty79 rfl rfl rfl om om ?_; refine JL_du 83 [box _ _ [_], box _ _ [_], box _ _ [_], osl _ _ _ _ _ _] [_, _, _, _] ?_; refine JC_region ?_; refine JL_m ?_; refine JL_quo_to rfl rfl om (IntWalk.u64_quo _ _ om) ?_; refine JL_a ?_; refine JL_nv 83 ?_; refine JE_block_normal ?_; refine JE_then ?_; refine JC_region ?_; refine JL_m ?_; refine JL_add_to rfl rfl i6o ?_; refine JL_a ?_; refine JL_nv 83 ?_
   refine JE_nextS (k + 1, o2.set (i + k) (t % 1000000000), t / 1000000000) kr ?_ ?_ kr ?_
   · exact ⟨by omega, by rw [List.length_set]; omega, hd2.set _ _ (Nat.mod_lt _ (by decide)), Nat.div_lt_of_lt_mul om, times_step om hv2 om rfl, fun l hl => by rw [Nat9.getD_set_ne o2 (i + k) l _ om]; exact hz2 l hl, fun h => by rw [Nat9.getD_set_ne o2 (i + k) _ _ om]; exact hz3 om⟩
   · first | omega | (dsimp only; omega)
   · exact subset_app subset_nil ss0
  ·refine JL_m ?_; refine JL_gy ?_; refine JL_m ?_; refine JL_gy ?_; refine JL_gtr rfl rfl ?_; refine JL_split (fun h37 => ?_) (fun h37 => ?_)
   ·refine JL_pick_f rfl rfl ?_; refine JL_dv 83 ?_; refine JC_true rfl ?_; refine JC_skip ?_; refine JE_then ?_; refine JC_seq ?_; refine JC_block ?_; refine JC_sr ?_; refine JL_m ?_; refine JL_m ?_; refine JL_m ?_; refine JL_add_to rfl rfl i6o ?_; refine JL_idx (i + k) sl37 rfl rfl rfl om (Reads.own 3 rfl) lno ?_; refine JL_loadE ty79 rfl (Reads.own 3 rfl) (u32s_get om) ?_; refine JL_convInt us79 it43 rfl (IntWalk.u64_in _ om) ?_; refine JL_m ?_; refine JL_add_to rfl rfl (IntWalk.u64_in _ om) ?_; refine JL_a ?_; refine JL_du 83 [box _ _ [_], box _ _ [_], box _ _ [_], osl _ _ _ _ _ _] [_, _, _, _] ?_; refine JC_seq ?_; refine JC_sr ?_; refine JL_m ?_; refine JL_fieldAddr fo39_0 rfl ?_; refine JL_load 1 ty37 rfl rfl rfl ?_; refine JL_len sl37 rfl ?_; refine JL_lss rfl rfl ?_; refine JL_dv 83 ?_
    refine JC_cutT ((Nat)) (fun (t : Nat) => t = o2.getD (i + k) 0 + c + ((limbsOf x1).getD i 0 * (limbsOf x2).getD k 0)) (fun u (t : Nat) => (rn 9 (some (.int .u64 (t : Nat)) :: rn 45 (sc u 55 15 [])))) (fun (t : Nat) => []) (fun (t : Nat) => []) ?_ ?_
    ·refine JC_cond rfl (fun hb => ?_) (fun hb => ?_)
     ·have h54 := of_decide_eq_true hb
      refine JC_drawT mixed 14 [spV 55 [] _, spV 56 [] _, spV 57 [1] _, spV 58 [] _, spV 59 [2, 3] _, spV 60 [4] _, spV 61 [5] _, spV 62 [] _, spV 63 [7] _, spV 64 [] _, spV 65 [8, 9] _, spV 66 [10] _, spV 67 [11] _, spV 68 [6, 12] _] ⟨oM, OblS_V (fun vals ex ψ => (by refine JL_normQ _ (_ :: _ :: _ :: _ :: ψ) rfl rfl ?_; refine JL_fieldAddr fo39_0 rfl ?_; exact vz rfl)), OblS_V (fun vals ex ψ => (by refine JL_normQ _ (_ :: _ :: _ :: _ :: ψ) rfl rfl ?_; refine JL_load 0 ty37 rfl rfl rfl ?_; exact vz rfl)), oM, OblS_V (fun vals ex ψ => (by refine JL_normQ _ (_ :: _ :: _ :: _ :: ψ) rfl rfl ?_; refine JL_idx i sl37 rfl rfl rfl om (Reads.view (List.mem_cons_of_mem _ List.mem_cons_self)) lno ?_; exact vz rfl)), OblS_V (fun vals ex ψ => (by refine JL_normQ _ (_ :: _ :: _ :: _ :: ψ) rfl rfl ?_; refine JL_loadE ty79 rfl (Reads.view (List.mem_cons_of_mem _ List.mem_cons_self)) (u32s_get om) ?_; exact vz rfl)), OblS_V (fun vals ex ψ => (by refine JL_normQ _ (_ :: _ :: _ :: _ :: ψ) rfl rfl ?_; refine JL_convInt us79 it43 rfl (IntWalk.u64_in _ om) ?_; exact vz rfl)), OblS_V (fun vals ex ψ => (by refine JL_normQ _ (_ :: _ :: _ :: _ :: ψ) rfl rfl ?_; refine JL_fieldAddr fo39_0 rfl ?_; exact vz rfl)), OblS_V (fun vals ex ψ => (by refine JL_normQ _ (_ :: _ :: _ :: _ :: ψ) rfl rfl ?_; refine JL_load 1 ty37 rfl rfl rfl ?_; exact vz rfl)), oM, OblS_V (fun vals ex ψ => (by refine JL_normQ _ (_ :: _ :: _ :: _ :: ψ) rfl rfl ?_; refine JL_idx k sl37 rfl rfl rfl om (Reads.view List.mem_cons_self) lno ?_; exact vz rfl)), OblS_V (fun vals ex ψ => (by
        refine JL_normQ _ (_ :: _ :: _ :: _ :: ψ) rfl rfl ?_; refine JL_loadE ty79 rfl (Reads.view List.mem_cons_self) (u32s_get om) ?_; exact vz rfl)), OblS_V (fun vals ex ψ => (by refine JL_normQ _ (_ :: _ :: _ :: _ :: ψ) rfl rfl ?_; refine JL_convInt us79 it43 rfl (IntWalk.u64_in _ om) ?_; exact vz rfl)), OblS_V (fun vals ex ψ => (by refine JL_mul_to rfl rfl (IntWalk.u64_in _ (by rw [← Int.natCast_mul]; omega)) ?_; rw [show ((((limbsOf x1).getD i 0 : Nat) : Int) * (((limbsOf x2).getD k 0 : Nat) : Int) : Int) = ((((limbsOf x1).getD i 0 * (limbsOf x2).getD k 0) : Nat) : Int) from (Int.natCast_mul _ _).symm]; exact vz rfl)), trivial⟩ kr (fun vals bs => ?_)
      refine JL_normL [_, _] ⟨83, [(55, _), (56, _), (57, _), (58, _), (59, _), (60, _), (61, _), (62, _), (63, _), (64, _), (65, _), (66, _), (67, _), (68, _)], _⟩ [box _ _ [_], box _ _ [_], box _ _ [_], osl _ _ _ _ _ _] [_, _, _, _] rfl rfl rfl rfl ?_; refine JL_add_to rfl rfl (IntWalk.u64_in _ om) ?_; refine JL_a ?_; refine JL_nu 83 [box _ _ [_], box _ _ [_], box _ _ [_], osl _ _ _ _ _ _] [_, _, _, _] ?_; refine JE_midS (o2.getD (i + k) 0 + c + ((limbsOf x1).getD i 0 * (limbsOf x2).getD k 0)) kr ?_ kr ?_
      · exact rfl
      · exact subset_app subset_nil ss0
     ·have h54 := of_decide_eq_false hb
      refine JC_skip ?_; refine JE_midS (o2.getD (i + k) 0 + c) kr ?_ kr ?_
      · show _ = _ + _; rw [getD_of_ge (limbsOf x2) k om]; omega
      · exact subset_app subset_nil ss0
    intro u t ht; refine JC_nm 83 [box _ _ [_], box _ _ [_], box _ _ [_], osl _ _ _ _ _ _] [_, _, _, _] ?_; refine JC_sr ?_; refine JL_m ?_; refine JL_m ?_; refine JL_m ?_; refine JL_add_to rfl rfl i6o ?_; refine JL_m ?_; refine JL_rem_to rfl rfl om (IntWalk.rem_in _ _ om) ?_; refine JL_convInt us43 it79 rfl (IntWalk.u32_in _ om) ?_; refine JL_idx (i + k) sl37 rfl rfl rfl om (Reads.own 3 rfl) lno ?_; refine JL_storeU 3 (t % 1000000000) ty79 rfl rfl rfl om om ?_; refine JL_du 83 [box _ _ [_], box _ _ [_], box _ _ [_], osl _ _ _ _ _ _] [_, _, _, _] ?_; refine JC_region ?_; refine JL_m ?_; refine JL_quo_to rfl rfl om (IntWalk.u64_quo _ _ om) ?_; refine JL_a ?_; refine JL_nv 83 ?_; refine JE_block_normal ?_; refine JE_then ?_; refine JC_region ?_; refine JL_m ?_; refine JL_add_to rfl rfl i6o ?_; refine JL_a ?_; refine JL_nv 83 ?_
    refine JE_nextS (k + 1, o2.set (i + k) (t % 1000000000), t / 1000000000) kr ?_ ?_ kr ?_
    · exact ⟨by omega, by rw [List.length_set]; omega, hd2.set _ _ (Nat.mod_lt _ (by decide)), Nat.div_lt_of_lt_mul om, times_step om hv2 om rfl, fun l hl => by rw [Nat9.getD_set_ne o2 (i + k) l _ om]; exact hz2 l hl, fun h => by rw [Nat9.getD_set_ne o2 (i + k) _ _ om]; exact hz3 om⟩
    · first | omega | (dsimp only; omega)
    · exact subset_app subset_nil ss0
   ·refine JL_pick_f rfl rfl ?_; refine JL_dv 83 ?_; refine JC_false rfl ?_; refine JC_exit ?_; refine JE_then_exit ?_; refine JE_nextS_exit ?_; refine JE_block_exit ?_; refine JE_block_normal ?_; refine JE_then ?_; refine JC_region ?_; refine JL_m ?_; refine JL_add_to rfl rfl i6o ?_; refine JL_a ?_; refine JL_nv 83 ?_; refine JE_nextS (i + 1, o2) kr ?_ ?_ kr ?_
    · exact ⟨by omega, ho2, hd2, by
          obtain rfl : c = 0 := by omega
          rw [Nat.mul_zero, Nat.add_zero, List.take_of_length_le (l := (limbsOf x2)) om] at hv2; rw [hv2, val_take_succ', Nat.add_mul, Nat.mul_assoc], fun l hl => hz2 l om⟩
    · first | omega | (dsimp only; omega)
    · exact subset_app subset_nil ss0
 ·refine JL_dv 83 ?_; refine JC_false rfl ?_; refine JC_exit ?_; refine JE_then_exit ?_; refine JE_nextS_exit ?_; refine JE_block_exit ?_; refine JE_then ?_; refine JC_sr ?_; refine JL_m ?_; refine JL_build (cs := [_]) [(0, [_])] st39 ⟨⟨rfl, _, rfl, rfl⟩, rfl⟩ rfl ?_; refine JL_callF' (Asks.cons (by first | exact holds_of_mem am | (exact holds_of_own 3 rfl)) Asks.nil) (rnorm_con _ _ _ _ (x1 * x2) ⟨ho, U32.ofDig hd, by rw [hv, List.take_of_length_le om, val_limbsOf, val_limbsOf], by omega⟩) rfl ca111 ⟨rfl, rfl⟩ ?_; rintro _ _ ⟨ad82, cap82, rfl, hk82, hm82, rfl⟩; refine JL_store (vs := [_]) 2 ty39 rfl rfl rfl ao1 rfl bleq ?_; refine JL_du 83 [box _ _ [_], box _ _ [_], box _ _ [_], osl _ _ _ _ _ _] [_, _, _, _, _] ?_; refine JC_ret ?_; refine JE_ret (vs := [_]) [vCells ad82 (u32s (limbsOf (x1 * x2)))] Tryz.results82 ⟨RV.cell (vs := [_]) 2 ty39 rfl rfl ⟨rfl, trivial⟩, rfl⟩ ?_ ?_
  · exact ⟨ad82, cap82, rfl, hk82, hm82, rfl⟩
  · exact (all_cons am all_nil)

end Go.Fw.K
