/- Walks through functions of the given program: each meets its contract. (Printed by a program of this repo.) -/
import Derived.Test.YtjkbamfcoiikmaaGreatDoorFwC
import Derived.Test.YtjkbamfcoiikmaaGreatDoorProg
namespace Go.Fw.W
open Go Go.RowKit Go.Proofs Go.Nat9 Go.Fw
attribute [local irreducible] JC JL JE
theorem ca110 : callable Tryz.prog 110 = true := by kernel_rfl
theorem ca47 : callable Tryz.prog 47 = true := by kernel_rfl
theorem ca53 : callable Tryz.prog 53 = true := by kernel_rfl
theorem ca88 : callable Tryz.prog 88 = true := by kernel_rfl
theorem fo39_0 : fOf Tryz.prog 39 0 = some 0 := by kernel_rfl
theorem it43 : intTy Tryz.prog 43 = some .u64 := by kernel_rfl
theorem it79 : intTy Tryz.prog 79 = some .u32 := by kernel_rfl
theorem mixed : Tryz.prog.follows .mixedOrders = true := by kernel_rfl
theorem sl37 : slOf Tryz.prog 37 = some (79, 1, 4, [.int .u32 0]) := by kernel_rfl
theorem st39 : stOf Tryz.prog 39 = some ([(0, 1)], [.slice none 0 0]) := by kernel_rfl
theorem ty37 : tyOf Tryz.prog 37 = some (false, 1) := by kernel_rfl
theorem ty39 : tyOf Tryz.prog 39 = some (true, 1) := by kernel_rfl
theorem ty79 : tyOf Tryz.prog 79 = some (false, 1) := by kernel_rfl
theorem us43 : (Tryz.prog.underlying 43).isSome = true := by kernel_rfl
theorem us79 : (Tryz.prog.underlying 79).isSome = true := by kernel_rfl
theorem z39 : zeroOf Tryz.prog 39 = some [.slice none 0 0] := by kernel_rfl
end Go.Fw.W
namespace Go.Fw.K
open Go Go.RowKit Go.Proofs Go.Nat9 Go.Fw Go.Fw.W
attribute [local irreducible] JC JL JE

theorem trim_con (ad : Option Addr) (n cap : Nat) (L : List Nat) (x : Nat) (g : DIn n L x) (hc : n ≤ cap) (hm : cap ≤ 9223372036854775807) :
    ConA Tryz.prog 88 [.slice ad n cap] [vCells ad (u32s L)]
      (LS x) := by
 obtain ⟨rfl, hd, hv⟩ := g; refine ConA_of Tryz.func88 rfl 21 (_ :: rp 20) rfl rfl ?_; intro w0; refine JC_st [] [_] ?_; refine JC_sr ?_; refine JL_a ?_; refine JL_dv 21 ?_; refine JC_seq ?_; refine JC_block ?_; refine JC_loopS ((Nat)) (fun (m : Nat) => m ≤ L.length ∧ trimL (L.take m) = trimL L) (fun (m : Nat) => m) (fun u (m : Nat) => (some (.slice ad m cap) :: rn 2 (sc u 3 17 []))) (fun (m : Nat) => []) (fun (m : Nat) => []) (L.length) kr ?_ kr ?_ ?_
 · exact ⟨Nat.le_refl _, by rw [List.take_length]⟩
 · exact subset_nil
 intro u m hC; obtain ⟨hmL, hT⟩ := hC; refine JC_nm 21 [] [_] ?_; refine JC_seq ?_; refine JC_sr ?_; refine JL_m ?_; refine JL_len sl37 rfl ?_; refine JL_gtr rfl rfl ?_; refine JL_split (fun h5 => ?_) (fun h5 => ?_)
 ·refine JL_m ?_; refine JL_gy ?_; refine JL_m ?_; refine JL_gy ?_; refine JL_m ?_; refine JL_gy ?_; refine JL_len sl37 rfl ?_; refine JL_gy ?_; refine JL_sub_to rfl rfl i6o ?_; refine JL_gy ?_; refine JL_idx (m - 1) sl37 rfl rfl om om rdg lno ?_; refine JL_gy ?_; refine JL_loadE ty79 rfl rdg (u32s_get om) ?_; refine JL_gy ?_; refine JL_eql rfl rfl ?_; refine JL_split (fun h13 => ?_) (fun h13 => ?_)
  ·refine JL_pick_t rfl rfl ?_; refine JL_dv 21 ?_; refine JC_true rfl ?_; refine JC_skip ?_; refine JE_then ?_; refine JC_block ?_; refine JC_region ?_; refine JL_m ?_; refine JL_m ?_; refine JL_len sl37 rfl ?_; refine JL_sub_to rfl rfl i6o ?_; refine JL_sliceTo (m - 1) sl37 rfl rfl om om ?_; refine JL_a ?_; refine JL_nu 21 [] [_] ?_; refine JE_block_normal ?_; refine JE_nextS (m - 1) kr ?_ ?_ kr ?_
   · exact ⟨by omega, by rw [← hT]; have h := trimL_take L (m - 1) om om; rw [Nat.sub_add_cancel om] at h; exact h.symm⟩
   · first | omega | (dsimp only; omega)
   · exact subset_app subset_nil ss0
  ·refine JL_pick_t rfl rfl ?_; refine JL_dv 21 ?_; refine JC_false rfl ?_; refine JC_exit ?_; refine JE_then_exit ?_; refine JE_nextS_exit ?_; refine JE_block_exit ?_; refine JE_then ?_; refine JC_sr ?_; refine JL_m ?_; refine JL_a ?_; refine JL_dv 21 ?_; refine JC_ret ?_
   have hfin : limbsOf x = L.take m := by
     rw [← hv, ← trimL_spec L hd, ← hT]
     rcases Nat.eq_zero_or_pos m with h0 | h0
     · rw [h0]; rfl
     · have h := trimL_stop L (m - 1) om om
       rwa [Nat.sub_add_cancel h0] at h
   have hlen : (limbsOf x).length = m := by rw [hfin, List.length_take]; omega
   refine JE_viewTake m List.mem_cons_self ?_; rw [u32s_take, ← hfin]; refine JE_ret (vs := [_]) [vCells ad (u32s (limbsOf x))] Tryz.results88 ⟨rfl, rfl⟩ ?_ ?_
   · exact ⟨ad, cap, by rw [hlen]; rfl, by omega, hm, rfl⟩
   · exact (all_cons am all_nil)
 ·refine JL_m ?_; refine JL_gn ?_; refine JL_gn ?_; refine JL_gn ?_; refine JL_gn ?_; refine JL_gn ?_; refine JL_gn ?_; refine JL_gn ?_; refine JL_pick_f rfl rfl ?_; refine JL_dv 21 ?_; refine JC_false rfl ?_; refine JC_exit ?_; refine JE_then_exit ?_; refine JE_nextS_exit ?_; refine JE_block_exit ?_; refine JE_then ?_; refine JC_sr ?_; refine JL_m ?_; refine JL_a ?_; refine JL_dv 21 ?_; refine JC_ret ?_
  have hfin : limbsOf x = L.take m := by
    rw [← hv, ← trimL_spec L hd, ← hT]
    rcases Nat.eq_zero_or_pos m with h0 | h0
    · rw [h0]; rfl
    · have h := trimL_stop L (m - 1) om om
      rwa [Nat.sub_add_cancel h0] at h
  have hlen : (limbsOf x).length = m := by rw [hfin, List.length_take]; omega
  refine JE_viewTake m List.mem_cons_self ?_; rw [u32s_take, ← hfin]; refine JE_ret (vs := [_]) [vCells ad (u32s (limbsOf x))] Tryz.results88 ⟨rfl, rfl⟩ ?_ ?_
  · exact ⟨ad, cap, by rw [hlen]; rfl, by omega, hm, rfl⟩
  · exact (all_cons am all_nil)

theorem limbs_con (ad1 : Option Addr) (n1 c1 : Nat) (L1 : List Nat) (x1 : Nat) (g1 : NIn n1 L1 x1 100000000) :
    ConF Tryz.prog 47 [.agg #[.slice ad1 n1 c1]] [vCells ad1 (u32s L1)]
      (LS x1) := by
 obtain ⟨rfl, hu, hx1, hb⟩ := g1; refine ConF_of Tryz.func47 rfl 38 (_ :: rp 37) rfl rfl ?_; intro w0; refine JC_st [] [_] ?_; refine JC_sr ?_; refine JL_box rfl rfl (fun b1 => ?_); refine JL_a ?_; refine JL_du 38 [box _ _ [_]] [_] ?_; refine JC_sr ?_; refine JL_fieldAddr fo39_0 rfl ?_; refine JL_load 0 ty37 rfl rfl rfl ?_; refine JL_len sl37 rfl ?_; refine JL_add_to rfl rfl i6o ?_; refine JL_make1 0 (L1.length + 1) sl37 rfl rfl rfl om om om om (fun g11 => ?_); rw [u32s_replicate]; refine JL_a ?_; refine JL_du 38 [box _ _ [_], osl _ _ _ _ _ _] [_] ?_; refine JC_sr ?_; refine JL_a ?_; refine JL_dv 38 ?_; refine JC_seq ?_; refine JC_sr ?_; refine JL_fieldAddr fo39_0 rfl ?_; refine JL_load 0 ty37 rfl rfl rfl ?_; refine JL_len sl37 rfl ?_; refine JL_m ?_; refine JL_dv 38 ?_; refine JC_block ?_
 refine JC_loopS ((Nat) × (List Nat) × (Nat) × (Option Addr) × (Nat)) (fun (k, out, c, ad, cap) => k ≤ L1.length ∧ out.length = k ∧ Dig out ∧ c ≤ 4 ∧ val out + 1000000000 ^ k * c = val (L1.take k) ∧ k ≤ cap ∧ cap ≤ 9223372036854775807) (fun (k, out, c, ad, cap) => L1.length - k) (fun u (k, out, c, ad, cap) => (rn 3 (some (.slice ad k cap) :: some (.int .u64 (c : Nat)) :: none :: some (u 6) :: rn 8 (some (.int .i64 (k : Nat)) :: sc u 16 16 [])))) (fun (k, out, c, ad, cap) => (none :: [some (osl ad k cap 79 1 (u32s out))])) (fun (k, out, c, ad, cap) => []) (0, [], 0, some ⟨g11, 0, none⟩, L1.length + 1) kr ?_ kr ?_ ?_
 · exact ⟨Nat.zero_le _, rfl, Dig.nil, by omega, by simp [val], by omega, by omega⟩
 · exact subset_nil
 intro u i hC; obtain ⟨k, out, c, ad, cap⟩ := i; obtain ⟨hk, ho, hd, hc, hv, hcap, hm⟩ := hC; refine JC_nm 38 [box _ _ [_], osl _ _ _ _ _ _] [_] ?_; refine JC_sr ?_; refine JL_lss rfl rfl ?_; refine JL_split (fun h16 => ?_) (fun h16 => ?_)
 ·refine JL_dv 38 ?_; refine JC_seq ?_; refine JC_true rfl ?_; refine JC_skip ?_; refine JE_then ?_; refine JC_seq ?_; refine JC_block ?_; refine JC_sr ?_
  have hx := hu.getD k
  refine JL_idx k sl37 rfl rfl rfl om rdg lno ?_; refine JL_loadE ty79 rfl rdg (u32s_get om) ?_; refine JL_a ?_; refine JL_dv 38 ?_; refine JC_sr ?_; refine JL_m ?_; refine JL_m ?_; refine JL_convInt us79 it43 rfl (IntWalk.u64_in _ om) ?_; refine JL_add_to rfl rfl (IntWalk.u64_in _ om) ?_; refine JL_a ?_; refine JL_du 38 [box _ _ [_], osl _ _ _ _ _ _] [_] ?_; refine JC_sr ?_; refine JL_m ?_; refine JL_m ?_; refine JL_rem_to rfl rfl om (IntWalk.rem_in _ _ om) ?_; refine JL_convInt us43 it79 rfl (IntWalk.u32_in _ om) ?_; refine JL_build1 sl37 rfl rfl (fun g27 => ?_); refine JL_appendU (L := _) 1 2 ((c + L1.getD k 0) % 1000000000) sl37 rfl rfl rfl rfl om om om (fun ad28 cap28 hc28 => ?_); refine JL_dropAt 2 ?_; refine JL_norm _ [box _ _ [_], osl _ _ _ _ _ _] [_] rfl rfl rfl ?_; refine JL_a ?_
  refine JL_du 38 [box _ _ [_], osl _ _ _ _ _ _] [_] ?_; refine JC_region ?_; refine JL_m ?_; refine JL_quo_to rfl rfl om (IntWalk.u64_quo _ _ om) ?_; refine JL_a ?_; refine JL_nv 38 ?_; refine JE_block_normal ?_; refine JE_then ?_; refine JC_region ?_; refine JL_add_to rfl rfl i6o ?_; refine JL_m ?_; refine JL_nv 38 ?_; refine JE_nextS (k + 1, out ++ [(c + L1.getD k 0) % 1000000000], (c + L1.getD k 0) / 1000000000, ad28, cap28) kr ?_ ?_ kr ?_
  · exact ⟨by omega, by rw [len_snoc]; omega, dig_snoc hd (Nat.mod_lt _ (by decide)), by omega, limbs_step ho hv rfl, by omega, by omega⟩
  · first | omega | (dsimp only; omega)
  · exact subset_app subset_nil ss0
 ·refine JL_dv 38 ?_; refine JC_seq ?_; refine JC_false rfl ?_; refine JC_exit ?_; refine JE_then_exit ?_; refine JE_nextS_exit ?_; refine JE_block_exit ?_; refine JE_then ?_; refine JC_sr ?_; refine JL_m ?_; refine JL_m ?_; refine JL_convInt us43 it79 rfl (IntWalk.u32_in _ om) ?_; refine JL_build1 sl37 rfl rfl (fun g35 => ?_); refine JL_appendU (L := _) 1 2 c sl37 rfl rfl rfl rfl om om om (fun ad36 cap36 hc36 => ?_); refine JL_dropAt 2 ?_; refine JL_norm _ [box _ _ [_], osl _ _ _ _ _ _] [_] rfl rfl rfl ?_; refine JL_give 1 rfl ?_; refine JL_norm _ [box _ _ [_]] [_, _] rfl rfl rfl ?_; refine JL_callA' true (AsksA.cons (holdsA_of_mem am) AsksA.nil) (trim_con _ _ _ _ _ ⟨(by first | rfl | assumption | (simp only [lenS]; omega)), (dig_snoc hd om), (by rw [val_snoc, ho, hv, val_take_all L1 k om, hx1])⟩ om om) rfl ca88 ⟨rfl, rfl⟩ ?_; rintro _ _ ⟨ad37, cap37, rfl, hk37, hm37, rfl⟩; refine JL_a ?_; refine JL_du 38 [box _ _ [_]] [_, _, _] ?_; refine JC_ret ?_; refine JE_ret (vs := [_]) [vCells ad37 (u32s (limbsOf (x1)))] Tryz.results47 ⟨rfl, rfl⟩ ?_ ?_
  · exact ⟨ad37, cap37, rfl, hk37, hm37, rfl⟩
  · exact (all_cons am all_nil)

theorem made_con (ad : Option Addr) (n cap : Nat) (L : List Nat) (x : Nat) (g : DIn n L x) (hc : n ≤ cap) (hm : cap ≤ 9223372036854775807) :
    ConA Tryz.prog 53 [.slice ad n cap] [vCells ad (u32s L)]
      (LN x) := by
 refine ConA_of Tryz.func53 rfl 11 (_ :: rp 10) rfl rfl ?_; intro w0; refine JC_st [] [_] ?_; refine JC_sr ?_; refine JL_alloc z39 (fun b2 => ?_); refine JL_du 11 [box _ _ [_]] [_] ?_; refine JC_sr ?_; refine JL_m ?_; refine JL_callA' true (AsksA.cons (holdsA_of_mem am) AsksA.nil) (trim_con _ _ _ _ _ g hc hm) rfl ca88 ⟨rfl, rfl⟩ ?_; rintro _ _ ⟨ad4, cap4, rfl, hk4, hm4, rfl⟩; refine JL_a ?_; refine JL_du 11 [box _ _ [_]] [_, _] ?_; refine JC_seq ?_; refine JC_sr ?_; refine JL_m ?_; refine JL_len sl37 rfl ?_; refine JL_eql rfl rfl ?_; refine JL_split (fun h7 => ?_) (fun h7 => ?_)
 ·refine JL_dv 11 ?_; refine JC_true rfl ?_; refine JC_sr ?_; refine JL_build (cs := [_]) [] st39 rfl rfl ?_; refine JL_store (vs := [_]) 0 ty39 rfl rfl rfl ao1 rfl bleq ?_; refine JL_du 11 [box _ _ [_]] [_, _] ?_; refine JC_ret ?_; refine JE_then_ret ?_
  have hz := limbs_zero (x := x) om
  subst hz; refine JE_nilView ?_; refine JE_ret (vs := [_]) [vCells none (u32s [])] Tryz.results53 ⟨RV.cell (vs := [_]) 0 ty39 rfl rfl ⟨rfl, trivial⟩, rfl⟩ ?_ ?_
  · exact ⟨none, 0, by rw [limbsOf_zero]; rfl, by rw [limbsOf_zero]; exact Nat.le_refl _, by omega, by rw [limbsOf_zero]⟩
  · exact (all_cons am all_nil)
 ·refine JL_dv 11 ?_; refine JC_false rfl ?_; refine JC_skip ?_; refine JE_then ?_; refine JC_sr ?_; refine JL_m ?_; refine JL_build (cs := [_]) [(0, [_])] st39 ⟨⟨rfl, _, rfl, rfl⟩, rfl⟩ rfl ?_; refine JL_store (vs := [_]) 0 ty39 rfl rfl rfl ao1 rfl bleq ?_; refine JL_du 11 [box _ _ [_]] [_, _] ?_; refine JC_ret ?_; refine JE_ret (vs := [_]) [vCells ad4 (u32s (limbsOf (x)))] Tryz.results53 ⟨RV.cell (vs := [_]) 0 ty39 rfl rfl ⟨rfl, trivial⟩, rfl⟩ ?_ ?_
  · exact ⟨ad4, cap4, rfl, hk4, hm4, rfl⟩
  · exact (all_cons am all_nil)

theorem compare_con (ad1 : Option Addr) (n1 c1 : Nat) (ad2 : Option Addr) (n2 c2 : Nat) (n m : Nat) (h1 : (limbsOf n).length = n1) (h2 : (limbsOf m).length = n2) (hb : n1 ≤ 1000000000) (hb2 : n2 ≤ 1000000000) :
    ConF Tryz.prog 48 [.slice ad1 n1 c1, .slice ad2 n2 c2] [vCells ad1 (u32s (limbsOf n)), vCells ad2 (u32s (limbsOf m))]
      (fun v φo => v = .int .i64 (cmpN n m) ∧ φo = []) := by
 subst h1 h2; refine ConF_of Tryz.func48 rfl 41 (_ :: _ :: rp 39) rfl rfl ?_; intro w0; refine JC_st [] [_, _] ?_; refine JC_sr ?_; refine JL_a ?_; refine JL_dv 41 ?_; refine JC_seq ?_; refine JC_sr ?_; refine JL_m ?_; refine JL_len sl37 rfl ?_; refine JL_m ?_; refine JL_len sl37 rfl ?_; refine JL_neq rfl rfl ?_; refine JL_split (fun h10 => ?_) (fun h10 => ?_)
 ·refine JL_dv 41 ?_; refine JC_true rfl ?_; refine JC_seq ?_; refine JC_sr ?_; refine JL_m ?_; refine JL_len sl37 rfl ?_; refine JL_m ?_; refine JL_len sl37 rfl ?_; refine JL_lss rfl rfl ?_; refine JL_split (fun h15 => ?_) (fun h15 => ?_)
  ·refine JL_dv 41 ?_; refine JC_true rfl ?_; refine JC_sr ?_; refine JL_a ?_; refine JL_dv 41 ?_; refine JC_ret ?_; refine JE_then_ret ?_; refine JE_then_ret ?_; refine JE_ret (vs := [_]) [] Tryz.results48 ⟨rfl, rfl⟩ ?_ ?_
   · exact ⟨by rw [cmpN_lt (length_limbsOf_lt om)]; rfl, rfl⟩
   · exact all_nil
  ·refine JL_dv 41 ?_; refine JC_false rfl ?_; refine JC_skip ?_; refine JE_then ?_; refine JC_sr ?_; refine JL_a ?_; refine JL_dv 41 ?_; refine JC_ret ?_; refine JE_then_ret ?_; refine JE_ret (vs := [_]) [] Tryz.results48 ⟨rfl, rfl⟩ ?_ ?_
   · exact ⟨by rw [cmpN_gt (length_limbsOf_lt om)]; rfl, rfl⟩
   · exact all_nil
 ·have hlen : (limbsOf n).length = (limbsOf m).length := by omega
  refine JL_dv 41 ?_; refine JC_false rfl ?_; refine JC_skip ?_; refine JE_then ?_; refine JC_seq ?_; refine JC_sr ?_; refine JL_m ?_; refine JL_len sl37 rfl ?_; refine JL_sub_to rfl rfl i6o ?_; refine JL_a ?_; refine JL_dv 41 ?_; refine JC_block ?_; refine JC_loopS ((Nat)) (fun (k : Nat) => k ≤ (limbsOf n).length ∧ (limbsOf n).drop k = (limbsOf m).drop k) (fun (k : Nat) => k) (fun u (k : Nat) => (rn 4 (some (u 4) :: some (.int .i64 ((k : Nat) - 1)) :: rn 13 (sc u 19 22 [])))) (fun (k : Nat) => []) (fun (k : Nat) => []) ((limbsOf n).length) kr ?_ kr ?_ ?_
  · exact ⟨Nat.le_refl _, by rw [List.drop_length, List.drop_of_length_le om]⟩
  · exact subset_nil
  intro u k hC; obtain ⟨hk, hd⟩ := hC; refine JC_nm 41 [] [_, _] ?_; refine JC_seq ?_; refine JC_sr ?_; refine JL_m ?_; refine JL_geq rfl rfl ?_; refine JL_split (fun h20 => ?_) (fun h20 => ?_)
  ·refine JL_dv 41 ?_; refine JC_true rfl ?_; refine JC_skip ?_; refine JE_then ?_; refine JC_seq ?_; refine JC_block ?_; refine JC_seq ?_; refine JC_drawT mixed 8 [spV 23 [] _, spV 24 [] _, spV 25 [0, 1] _, spV 26 [2] _, spV 27 [] _, spV 28 [] _, spV 29 [4, 5] _, spV 30 [6] _] ⟨oM, oM, OblS_V (fun vals ex ψ => (by refine JL_normQ _ (_ :: _ :: ψ) rfl rfl ?_; refine JL_idx (k - 1) sl37 rfl rfl om om (Reads.view List.mem_cons_self) lno ?_; exact vz rfl)), OblS_V (fun vals ex ψ => (by refine JL_normQ _ (_ :: _ :: ψ) rfl rfl ?_; refine JL_loadE ty79 rfl (Reads.view List.mem_cons_self) (u32s_get om) ?_; exact vz rfl)), oM, oM, OblS_V (fun vals ex ψ => (by refine JL_normQ _ (_ :: _ :: ψ) rfl rfl ?_; refine JL_idx (k - 1) sl37 rfl rfl om om (Reads.view (List.mem_cons_of_mem _ List.mem_cons_self)) lno ?_; exact vz rfl)), OblS_V (fun vals ex ψ => (by refine JL_normQ _ (_ :: _ :: ψ) rfl rfl ?_; refine JL_loadE ty79 rfl (Reads.view (List.mem_cons_of_mem _ List.mem_cons_self)) (u32s_get om) ?_; exact vz rfl)), trivial⟩ kr (fun vals bs => ?_)
   refine JL_normL [_] ⟨41, [(23, _), (24, _), (25, _), (26, _), (27, _), (28, _), (29, _), (30, _)], _⟩ [] [_, _] rfl rfl rfl rfl ?_; refine JL_neq rfl rfl ?_; refine JL_split (fun h31 => ?_) (fun h31 => ?_)
   ·refine JL_du 41 [] [_, _] ?_; refine JC_true rfl ?_; refine JC_seq ?_; refine JC_seq ?_; refine JC_drawT mixed 8 [spV 32 [] _, spV 33 [] _, spV 34 [0, 1] _, spV 35 [2] _, spV 36 [] _, spV 37 [] _, spV 38 [4, 5] _, spV 39 [6] _] ⟨oM, oM, OblS_V (fun vals ex ψ => (by refine JL_normQ _ (_ :: _ :: ψ) rfl rfl ?_; refine JL_idx (k - 1) sl37 rfl rfl om om (Reads.view List.mem_cons_self) lno ?_; exact vz rfl)), OblS_V (fun vals ex ψ => (by refine JL_normQ _ (_ :: _ :: ψ) rfl rfl ?_; refine JL_loadE ty79 rfl (Reads.view List.mem_cons_self) (u32s_get om) ?_; exact vz rfl)), oM, oM, OblS_V (fun vals ex ψ => (by refine JL_normQ _ (_ :: _ :: ψ) rfl rfl ?_; refine JL_idx (k - 1) sl37 rfl rfl om om (Reads.view (List.mem_cons_of_mem _ List.mem_cons_self)) lno ?_; exact vz rfl)), OblS_V (fun vals ex ψ => (by refine JL_normQ _ (_ :: _ :: ψ) rfl rfl ?_; refine JL_loadE ty79 rfl (Reads.view (List.mem_cons_of_mem _ List.mem_cons_self)) (u32s_get om) ?_; exact vz rfl)), trivial⟩ kr (fun vals bs => ?_)
    refine JL_normL [_] ⟨41, [(32, _), (33, _), (34, _), (35, _), (36, _), (37, _), (38, _), (39, _)], _⟩ [] [_, _] rfl rfl rfl rfl ?_; refine JL_lss rfl rfl ?_; refine JL_split (fun h40 => ?_) (fun h40 => ?_)
    ·refine JL_du 41 [] [_, _] ?_; refine JC_true rfl ?_; refine JC_sr ?_; refine JL_a ?_; refine JL_dv 41 ?_; refine JC_ret ?_; refine JE_then_ret ?_; refine JE_block_ret ?_; refine JE_then_ret ?_; refine JE_nextS_ret ?_; refine JE_block_ret ?_; refine JE_then_ret ?_; refine JE_ret (vs := [_]) [] Tryz.results48 ⟨rfl, rfl⟩ ?_ ?_
     · exact ⟨by rw [cmpN_lt (cmp_top hlen (k - 1) om (by rw [Nat.sub_add_cancel om]; exact hd) om)]; rfl, rfl⟩
     · exact all_nil
    ·refine JL_du 41 [] [_, _] ?_; refine JC_false rfl ?_; refine JC_skip ?_; refine JE_then ?_; refine JC_sr ?_; refine JL_a ?_; refine JL_dv 41 ?_; refine JC_ret ?_; refine JE_block_ret ?_; refine JE_then_ret ?_; refine JE_nextS_ret ?_; refine JE_block_ret ?_; refine JE_then_ret ?_; refine JE_ret (vs := [_]) [] Tryz.results48 ⟨rfl, rfl⟩ ?_ ?_
     · exact ⟨by rw [cmpN_gt (cmp_top hlen.symm (k - 1) om (by rw [Nat.sub_add_cancel om]; exact hd.symm) om)]; rfl, rfl⟩
     · exact all_nil
   ·refine JL_du 41 [] [_, _] ?_; refine JC_false rfl ?_; refine JC_skip ?_; refine JE_block_normal ?_; refine JE_then ?_; refine JC_region ?_; refine JL_m ?_; refine JL_sub_to rfl rfl i6o ?_; rw [show ((k : Int) - 1 - 1 : Int) = ((k - 1 : Nat) : Int) - 1 from by omega]; refine JL_a ?_; refine JL_nv 41 ?_; refine JE_nextS (k - 1) kr ?_ ?_ kr ?_
    · exact ⟨by omega, cmp_drop hlen (k - 1) om (by rw [Nat.sub_add_cancel om]; exact hd) om⟩
    · first | omega | (dsimp only; omega)
    · exact subset_app subset_nil ss0
  ·refine JL_dv 41 ?_; refine JC_false rfl ?_; refine JC_exit ?_; refine JE_then_exit ?_; refine JE_nextS_exit ?_; refine JE_block_exit ?_; refine JE_then ?_; refine JC_sr ?_; refine JL_a ?_; refine JL_dv 41 ?_; refine JC_ret ?_; refine JE_ret (vs := [_]) [] Tryz.results48 ⟨rfl, rfl⟩ ?_ ?_
   · exact ⟨by rw [cmpN_eq (cmp_all (by rw [show (0 : Nat) = k from by omega]; exact hd))]; rfl, rfl⟩
   · exact all_nil

theorem times_con (ad1 : Option Addr) (n1 c1 : Nat) (ad2 : Option Addr) (n2 c2 : Nat) (A C : List Nat) (x y : Nat) (z : Nat) (hz : x * y = z) (gA : DIn n1 A x) (gC : DIn n2 C y) (hb : n1 ≤ 1000000000) (hb2 : n2 ≤ 1000000000) :
    ConF Tryz.prog 110 [.slice ad1 n1 c1, .slice ad2 n2 c2] [vCells ad1 (u32s A), vCells ad2 (u32s C)]
      (LS z) := by
 subst hz; obtain ⟨rfl, dA, hxA⟩ := gA; obtain ⟨rfl, dC, hyC⟩ := gC; refine ConF_of Tryz.func110 rfl 68 (_ :: _ :: rp 66) rfl rfl ?_; intro w0; refine JC_st [] [_, _] ?_; refine JC_sr ?_; refine JL_a ?_; refine JL_dv 68 ?_; refine JC_sr ?_; refine JL_m ?_; refine JL_len sl37 rfl ?_; refine JL_m ?_; refine JL_len sl37 rfl ?_; refine JL_add_to rfl rfl i6o ?_; refine JL_make1 (A.length + C.length) (A.length + C.length) sl37 rfl rfl om om om om om (fun g16 => ?_); rw [u32s_replicate]; refine JL_a ?_; refine JL_du 68 [osl _ _ _ _ _ _] [_, _] ?_; refine JC_seq ?_; refine JC_sr ?_; refine JL_m ?_; refine JL_len sl37 rfl ?_; refine JL_m ?_; refine JL_dv 68 ?_; refine JC_block ?_
 refine JC_loopS ((Nat) × (List Nat)) (fun (i, out) => i ≤ A.length ∧ out.length = A.length + C.length ∧ Dig out ∧ val out = val (A.take i) * val C ∧ ∀ l, i + C.length ≤ l → out.getD l 0 = 0) (fun (i, out) => A.length - i) (fun u (i, out) => (rn 6 (sc u 6 5 (rn 8 (some (.int .i64 (i : Nat)) :: sc u 20 46 []))))) (fun (i, out) => [some (osl (some ⟨g16, 0, none⟩) (A.length + C.length) (A.length + C.length) 79 1 (u32s out))]) (fun (i, out) => []) (0, List.replicate (A.length + C.length) 0) kr ?_ kr ?_ ?_
 · exact ⟨Nat.zero_le _, List.length_replicate, Dig.replicate _, by rw [val_replicate]; simp [val], fun l _ => getD_replicate _ l⟩
 · exact subset_nil
 intro u i hC; obtain ⟨i, out⟩ := i; obtain ⟨hi, ho, hd, hv, hz⟩ := hC; refine JC_nm 68 [osl _ _ _ _ _ _] [_, _] ?_
 have hX := dA.getD i
 refine JC_sr ?_; refine JL_lss rfl rfl ?_; refine JL_split (fun h20 => ?_) (fun h20 => ?_)
 ·refine JL_dv 68 ?_; refine JC_seq ?_; refine JC_true rfl ?_; refine JC_skip ?_; refine JE_then ?_; refine JC_seq ?_; refine JC_block ?_; refine JC_sr ?_; refine JL_m ?_; refine JL_idx i sl37 rfl rfl rfl om (Reads.view List.mem_cons_self) lno ?_; refine JL_loadE ty79 rfl (Reads.view List.mem_cons_self) (u32s_get om) ?_; refine JL_a ?_; refine JL_a ?_; refine JL_dv 68 ?_; refine JC_sr ?_; refine JL_a ?_; refine JL_dv 68 ?_; refine JC_seq ?_; refine JC_sr ?_; refine JL_m ?_; refine JL_len sl37 rfl ?_; refine JL_m ?_; refine JL_dv 68 ?_; refine JC_block ?_
  refine JC_loopS ((Nat) × (List Nat) × (Nat)) (fun (j, o2, c) => j ≤ C.length ∧ o2.length = A.length + C.length ∧ Dig o2 ∧ c < 1000000000 ∧ val o2 + 1000000000 ^ (i + j) * c = val (A.take i) * val C + 1000000000 ^ i * (A.getD i 0 * val (C.take j)) ∧ ∀ l, i + C.length ≤ l → o2.getD l 0 = 0) (fun (j, o2, c) => C.length - j) (fun u (j, o2, c) => (rn 8 (some (.int .u64 (c : Nat)) :: sc u 9 2 (rn 15 (some (.int .i64 (j : Nat)) :: sc u 27 30 []))))) (fun (j, o2, c) => [some (osl (some ⟨g16, 0, none⟩) (A.length + C.length) (A.length + C.length) 79 1 (u32s o2))]) (fun (j, o2, c) => []) (0, out, 0) kr ?_ kr ?_ ?_
  · exact ⟨Nat.zero_le _, ho, hd, by omega, by rw [hv]; simp [val], hz⟩
  · exact subset_nil
  intro u i hC; obtain ⟨j, o2, c⟩ := i; obtain ⟨hj, ho2, hd2, hc, hv2, hz2⟩ := hC; refine JC_nm 68 [osl _ _ _ _ _ _] [_, _] ?_
  have hY := dC.getD j
  have hO := hd2.getD (i + j)
  have hxy : A.getD i 0 * C.getD j 0 ≤ 999999999 * 999999999 := Nat.mul_le_mul om om
  have hct := times_carry hX hY hO hc
  refine JC_sr ?_; refine JL_lss rfl rfl ?_; refine JL_split (fun h27 => ?_) (fun h27 => ?_)
  ·refine JL_dv 68 ?_; refine JC_seq ?_; refine JC_true rfl ?_; refine JC_skip ?_; refine JE_then ?_; refine JC_seq ?_; refine JC_block ?_; refine JC_sr ?_; refine JL_m ?_; refine JL_idx j sl37 rfl rfl rfl om (Reads.view (List.mem_cons_of_mem _ List.mem_cons_self)) lno ?_; refine JL_loadE ty79 rfl (Reads.view (List.mem_cons_of_mem _ List.mem_cons_self)) (u32s_get om) ?_; refine JL_a ?_; refine JL_a ?_; refine JL_dv 68 ?_; refine JC_sr ?_; refine JL_m ?_; refine JL_m ?_; refine JL_convInt us79 it43 rfl (IntWalk.u64_in _ om) ?_; refine JL_m ?_; refine JL_convInt us79 it43 rfl (IntWalk.u64_in _ om) ?_; refine JL_mul_to rfl rfl (IntWalk.u64_in _ (by rw [← Int.natCast_mul]; omega)) ?_; rw [show (((A.getD i 0 : Nat) : Int) * ((C.getD j 0 : Nat) : Int) : Int) = ((A.getD i 0 * C.getD j 0 : Nat) : Int) from (Int.natCast_mul _ _).symm]; refine JL_m ?_; refine JL_m ?_; refine JL_m ?_; refine JL_add_to rfl rfl i6o ?_
   refine JL_idx (i + j) sl37 rfl rfl rfl om (Reads.own 0 rfl) lno ?_; refine JL_loadE ty79 rfl (Reads.own 0 rfl) (u32s_get om) ?_; refine JL_convInt us79 it43 rfl (IntWalk.u64_in _ om) ?_; refine JL_add_to rfl rfl (IntWalk.u64_in _ om) ?_; refine JL_add_to rfl rfl (IntWalk.u64_in _ om) ?_; refine JL_a ?_; refine JL_du 68 [osl _ _ _ _ _ _] [_, _] ?_; refine JC_sr ?_; refine JL_m ?_; refine JL_m ?_; refine JL_m ?_; refine JL_add_to rfl rfl i6o ?_; refine JL_m ?_; refine JL_rem_to rfl rfl om (IntWalk.rem_in _ _ om) ?_; refine JL_convInt us43 it79 rfl (IntWalk.u32_in _ om) ?_; refine JL_idx (i + j) sl37 rfl rfl rfl om (Reads.own 0 rfl) lno ?_; refine JL_storeU 0 ((c + (A.getD i 0 * C.getD j 0 + o2.getD (i + j) 0)) % 1000000000) ty79 rfl rfl rfl om om ?_; refine JL_du 68 [osl _ _ _ _ _ _] [_, _] ?_; refine JC_region ?_; refine JL_m ?_
   refine JL_quo_to rfl rfl om (IntWalk.u64_quo _ _ om) ?_; refine JL_a ?_; refine JL_nv 68 ?_; refine JE_block_normal ?_; refine JE_then ?_; refine JC_region ?_; refine JL_add_to rfl rfl i6o ?_; refine JL_m ?_; refine JL_nv 68 ?_; refine JE_nextS (j + 1, o2.set (i + j) ((c + (A.getD i 0 * C.getD j 0 + o2.getD (i + j) 0)) % 1000000000), (c + (A.getD i 0 * C.getD j 0 + o2.getD (i + j) 0)) / 1000000000) kr ?_ ?_ kr ?_
   · exact ⟨by omega, by rw [List.length_set]; omega, hd2.set _ _ (Nat.mod_lt _ (by decide)), Nat.div_lt_of_lt_mul om, times_step om hv2 om rfl, fun l hl => by rw [Nat9.getD_set_ne o2 (i + j) l _ om]; exact hz2 l hl⟩
   · first | omega | (dsimp only; omega)
   · exact subset_app subset_nil ss0
  ·refine JL_dv 68 ?_; refine JC_seq ?_; refine JC_false rfl ?_; refine JC_exit ?_; refine JE_then_exit ?_; refine JE_nextS_exit ?_; refine JE_block_exit ?_; refine JE_then ?_; refine JC_region ?_; refine JL_m ?_; refine JL_m ?_; refine JL_m ?_; refine JL_len sl37 rfl ?_; refine JL_add_to rfl rfl i6o ?_; refine JL_m ?_; refine JL_convInt us43 it79 rfl (IntWalk.u32_in _ om) ?_; refine JL_idx (i + C.length) sl37 rfl rfl rfl om (Reads.own 0 rfl) lno ?_; refine JL_storeU 0 c ty79 rfl rfl rfl om om ?_; refine JL_nu 68 [osl _ _ _ _ _ _] [_, _] ?_; refine JE_block_normal ?_; refine JE_then ?_; refine JC_region ?_; refine JL_add_to rfl rfl i6o ?_; refine JL_m ?_; refine JL_nv 68 ?_; refine JE_nextS (i + 1, o2.set (i + C.length) c) kr ?_ ?_ kr ?_
   · obtain rfl : j = C.length := by omega
     exact ⟨by omega, by rw [List.length_set]; omega, hd2.set _ _ hc, times_outer om rfl hv2 (hz2 _ om) rfl, fun l hl => by rw [Nat9.getD_set_ne o2 (i + C.length) l c om]; exact hz2 l om⟩
   · first | omega | (dsimp only; omega)
   · exact subset_app subset_nil ss0
 ·refine JL_dv 68 ?_; refine JC_seq ?_; refine JC_false rfl ?_; refine JC_exit ?_; refine JE_then_exit ?_; refine JE_nextS_exit ?_; refine JE_block_exit ?_; refine JE_then ?_; refine JC_sr ?_; refine JL_m ?_; refine JL_give 0 rfl ?_; refine JL_norm _ [] [_, _, _] rfl rfl rfl ?_; refine JL_callA' true (AsksA.cons (holdsA_of_mem am) AsksA.nil) (trim_con _ _ _ _ _ ⟨(by first | rfl | assumption | (simp only [lenS]; omega)), hd, (by rw [hv, List.take_of_length_le om, hxA, hyC])⟩ om om) rfl ca88 ⟨rfl, rfl⟩ ?_; rintro _ _ ⟨ad67, cap67, rfl, hk67, hm67, rfl⟩; refine JL_a ?_; refine JL_du 68 [] [_, _, _, _] ?_; refine JC_ret ?_; refine JE_ret (vs := [_]) [vCells ad67 (u32s (limbsOf (x * y)))] Tryz.results110 ⟨rfl, rfl⟩ ?_ ?_
  · exact ⟨ad67, cap67, rfl, hk67, hm67, rfl⟩
  · exact (all_cons am all_nil)

theorem nat_of_con (n : Nat) (hn : n < 18446744073709551616) :
    ConF Tryz.prog 28 [.int .u64 (n : Nat)] []
      (LN n) := by
 refine ConF_of Tryz.func28 rfl 16 (_ :: rp 15) rfl rfl ?_; intro w0; refine JC_st [] [] ?_; refine JC_sr ?_; refine JL_alloc z39 (fun b2 => ?_); refine JL_du 16 [box _ _ [_]] [] ?_; refine JC_sr ?_; refine JL_m ?_; refine JL_rem_to rfl rfl om (rem_nat n 1000000000) ?_; refine JL_convInt us43 it79 rfl (IntWalk.u32_in _ om) ?_; refine JL_m ?_; refine JL_quo_to rfl rfl om (quo_nat_u64 n 1000000000 om) ?_; refine JL_rem_to rfl rfl om (rem_nat (n / 1000000000) 1000000000) ?_; refine JL_convInt us43 it79 rfl (IntWalk.u32_in _ om) ?_; refine JL_m ?_; refine JL_quo_to rfl rfl om (quo_nat_u64 n 1000000000 om) ?_; refine JL_quo_to rfl rfl om (quo_nat_u64 (n / 1000000000) 1000000000 om) ?_; refine JL_convInt us43 it79 rfl (IntWalk.u32_in _ om) ?_; refine JL_buildN (cs0 := [.int .u32 0, .int .u32 0, .int .u32 0]) (cs := [_, _, _]) [(0, [_]), (1, [_]), (2, [_])] sl37 kr ⟨⟨rfl, _, rfl, rfl⟩, ⟨rfl, _, rfl, rfl⟩, ⟨rfl, _, rfl, rfl⟩, rfl⟩ rfl rfl rfl rfl (fun g14 => ?_)
 refine JL_norm _ [box _ _ [_], osl _ _ _ _ _ (u32s ([n % 1000000000, n / 1000000000 % 1000000000, n / 1000000000 / 1000000000]))] [] rfl rfl rfl ?_; refine JL_give 1 rfl ?_; refine JL_norm _ [box _ _ [_]] [_] rfl rfl rfl ?_; refine JL_callA' true (AsksA.cons (holdsA_of_mem am) AsksA.nil) (made_con _ 3 _ _ _ ⟨rfl, Dig.cons om (Dig.cons om (Dig.cons om Dig.nil)), val_of3 n⟩ om om) rfl ca53 ⟨rfl, rfl⟩ ?_; rintro _ _ ⟨ad15, cap15, rfl, hk15, hm15, rfl⟩; refine JL_store (vs := [_]) 0 ty39 rfl rfl rfl ao1 rfl bleq ?_; refine JL_du 16 [box _ _ [_]] [_, _] ?_; refine JC_ret ?_; refine JE_ret (vs := [_]) [vCells ad15 (u32s (limbsOf (n)))] Tryz.results28 ⟨RV.cell (vs := [_]) 0 ty39 rfl rfl ⟨rfl, trivial⟩, rfl⟩ ?_ ?_
 · exact ⟨ad15, cap15, rfl, hk15, hm15, rfl⟩
 · exact (all_cons am all_nil)

theorem nat_mul_con (ad1 : Option Addr) (n1 c1 : Nat) (L1 : List Nat) (x1 : Nat) (g1 : NIn n1 L1 x1 100000000) (ad2 : Option Addr) (n2 c2 : Nat) (L2 : List Nat) (x2 : Nat) (g2 : NIn n2 L2 x2 100000000) :
    ConF Tryz.prog 80 [.agg #[.slice ad1 n1 c1], .agg #[.slice ad2 n2 c2]] [vCells ad1 (u32s L1), vCells ad2 (u32s L2)]
      (LN (x1 * x2)) := by
 have hs1 := g1.sz
 have hl1 := g1.le
 have hs2 := g2.sz
 have hl2 := g2.le
 have hsz := len_limbsOf_mul x1 x2
 refine ConF_of Tryz.func80 rfl 11 (_ :: _ :: rp 9) rfl rfl ?_; intro w0; refine JC_st [] [_, _] ?_; refine JC_sr ?_; refine JL_box rfl rfl (fun b2 => ?_); refine JL_box rfl rfl (fun b3 => ?_); refine JL_alloc z39 (fun b4 => ?_); refine JL_du 11 [box _ _ [_], box _ _ [_], box _ _ [_]] [_, _] ?_; refine JC_seq ?_; refine JC_drawT mixed 3 [spV 5 [] _, spC 6 [0] _, spV 7 [] _] ⟨OblS_V (fun vals ex ψ => (by refine JL_normQ _ (_ :: _ :: ψ) rfl rfl ?_; refine JL_loadA (vs := [_]) 0 ty39 rfl rfl ⟨rfl, trivial⟩ ?_; exact vz rfl)), OblS_C (fun vals ex ψ => (by refine JL_normQ ⟨11, [(5, _), (6, _), (7, _)], _⟩ (_ :: _ :: ψ) rfl rfl ?_; refine JL_callF' (Asks.cons (holds_of_mem am) Asks.nil) (limbs_con _ _ _ _ _ g1) rfl ca47 ⟨rfl, rfl⟩ ?_; exact fun v φo hP => JL_nil (JE_stepC φo rfl hP (fun p hp => mapB_l hp) (fun p hp => mapB_r (ss0 p hp))))), OblS_V (fun vals ex ψ => (by refine JL_normQ _ (_ :: _ :: ψ) rfl rfl ?_; refine JL_loadA (vs := [_]) 1 ty39 rfl rfl ⟨rfl, trivial⟩ ?_; exact vz rfl)), trivial⟩ kr (fun vals bs => ?_)
 refine JL_normL [_, _, _, _] ⟨11, [(5, _), (6, _), (7, _)], _⟩ [box _ _ [_], box _ _ [_], box _ _ [_]] [_, _, _] rfl rfl rfl rfl ?_; generalize vals (0 + 1) = x6; refine JL_usePost mm0 (fun φo hP => ?_); obtain ⟨ad6, cap6, rfl, hk6, hm6, rfl⟩ := hP; refine JL_norm _ [box _ _ [_], box _ _ [_], box _ _ [_]] [_, _, _, _] rfl rfl rfl ?_; refine JL_callF' (Asks.cons (holds_of_mem am) Asks.nil) (limbs_con _ _ _ _ _ g2) rfl ca47 ⟨rfl, rfl⟩ ?_; rintro _ _ ⟨ad8, cap8, rfl, hk8, hm8, rfl⟩; refine JL_callF' (Asks.cons (holds_of_mem am) (Asks.cons (holds_of_mem am) Asks.nil)) (times_con _ _ _ _ _ _ _ _ _ _ _ rfl DIn.of DIn.of om om) rfl ca110 ⟨rfl, rfl, rfl⟩ ?_; rintro _ _ ⟨ad9, cap9, rfl, hk9, hm9, rfl⟩; refine JL_callA' true (AsksA.cons (holdsA_of_mem am) AsksA.nil) (made_con _ _ _ _ _ DIn.of om om) rfl ca53 ⟨rfl, rfl⟩ ?_; rintro _ _ ⟨ad10, cap10, rfl, hk10, hm10, rfl⟩; refine JL_store (vs := [_]) 2 ty39 rfl rfl rfl ao1 rfl bleq ?_; refine JL_du 11 [box _ _ [_], box _ _ [_], box _ _ [_]] [_, _, _, _, _, _, _] ?_; refine JC_ret ?_
 refine JE_ret (vs := [_]) [vCells ad10 (u32s (limbsOf (x1 * x2)))] Tryz.results80 ⟨RV.cell (vs := [_]) 2 ty39 rfl rfl ⟨rfl, trivial⟩, rfl⟩ ?_ ?_
 · exact ⟨ad10, cap10, rfl, hk10, hm10, rfl⟩
 · exact (all_cons am all_nil)

end Go.Fw.K
