/- Walks through functions of the given program: each meets its contract. (Printed by a program of this repo.) -/
import Derived.Test.YtmambmpohkollaaGreatDoorA3
import Derived.Test.YtmambmpohkollaaGreatDoorProg
namespace Go.Fw.A4
open Go Go.RowKit Go.Proofs Go.Nat9 Go.Fw
attribute [local irreducible] JC JL JE
theorem ca64 : callable Tryz.prog 64 = true := by kernel_rfl
theorem sl22 : slOf Tryz.prog 22 = some (3, 1, 8, [.int .i64 0]) := by kernel_rfl
theorem sl41 : slOf Tryz.prog 41 = some (22, 1, 24, [.slice none 0 0]) := by kernel_rfl
theorem ty22 : tyOf Tryz.prog 22 = some (false, 1) := by kernel_rfl
theorem ty3 : tyOf Tryz.prog 3 = some (false, 1) := by kernel_rfl
end Go.Fw.A4
namespace Go.Fw.K
open Go Go.RowKit Go.Proofs Go.Nat9 Go.Fw Go.Fw.A4
attribute [local irreducible] JC JL JE

open Go.Fw.Cn
theorem plain_con {n : Nat} (hn : n ≤ 40) :
    ConF Tryz.prog 33 [.int .i64 (n : Nat)] []
      (fun v φo => ∃ (ad : Option Addr) (c : Nat), v = .slice ad (zs (List.range n)).length c ∧ φo = [vCells ad (i64s (zs (List.range n)))]) := by
 refine ConF_of Tryz.func33 rfl 18 (_ :: rp 17) rfl rfl ?_; intro w0; refine JC_st [] [] ?_; refine JC_sr ?_; refine JL_a ?_; refine JL_dv 18 ?_; refine JC_sr ?_; refine JL_m ?_; refine JL_make1 n n sl22 rfl rfl rfl rfl om om om (fun g6 => ?_); rw [i64s_replicate]; refine JL_a ?_; refine JL_du 18 [osl _ _ _ _ _ _] [] ?_; refine JC_seq ?_; refine JC_sr ?_; refine JL_m ?_; refine JL_len sl22 rfl ?_; refine JL_m ?_; refine JL_dv 18 ?_; refine JC_block ?_; refine JC_loopS ((Nat) × (List Int)) (fun (i, M) => i ≤ n ∧ M = zs (List.range i) ++ List.replicate (n - i) 0 ∧ M.length = n) (fun (i, M) => n - i) (fun u (i, M) => (rn 4 (some (u 4) :: rn 4 (some (.int .i64 (i : Nat)) :: sc u 10 7 [])))) (fun (i, M) => [some (osl (some ⟨g6, 0, none⟩) n n 3 1 (i64s M))]) (fun (i, M) => []) (0, List.replicate n 0) kr ?_ kr ?_ ?_
 · exact ⟨Nat.zero_le _, rfl, List.length_replicate⟩
 · exact subset_nil
 intro u i hC; obtain ⟨i, M⟩ := i; obtain ⟨hi, hM, hMl⟩ := hC; refine JC_nm 18 [osl _ _ _ _ _ _] [] ?_; refine JC_sr ?_; refine JL_lss rfl rfl ?_; refine JL_split (fun h10 => ?_) (fun h10 => ?_)
 ·refine JL_dv 18 ?_; refine JC_seq ?_; refine JC_true rfl ?_; refine JC_skip ?_; refine JE_then ?_; refine JC_seq ?_; refine JC_block ?_; refine JC_sr ?_; refine JL_m ?_; refine JL_a ?_; refine JL_dv 18 ?_; refine JC_region ?_; refine JL_m ?_; refine JL_m ?_; refine JL_m ?_; refine JL_idx i sl22 rfl rfl rfl om (Reads.own 0 rfl) lno ?_; refine JL_storeI 0 ty3 rfl rfl rfl om ?_; refine JL_nu 18 [osl _ _ _ _ _ _] [] ?_; refine JE_block_normal ?_; refine JE_then ?_; refine JC_region ?_; refine JL_add_to rfl rfl i6o ?_; refine JL_m ?_; refine JL_nv 18 ?_; refine JE_nextS (i + 1, M.set i (i : Int)) kr ?_ ?_ kr ?_
  · exact ⟨by omega, by rw [hM]; exact plain_step om, by rw [List.length_set]; exact hMl⟩
  · first | omega | (dsimp only; omega)
  · exact subset_app subset_nil ss0
 ·refine JL_dv 18 ?_; refine JC_seq ?_; refine JC_false rfl ?_; refine JC_exit ?_; refine JE_then_exit ?_; refine JE_nextS_exit ?_; refine JE_block_exit ?_; refine JE_then ?_; refine JC_sr ?_; refine JL_m ?_; refine JL_a ?_; refine JL_dv 18 ?_; refine JC_ret ?_
  have hMn : M = zs (List.range n) := by rw [hM, show i = n by omega, Nat.sub_self]; simp
  subst hMn; refine JE_give 0 rfl ?_; refine JE_norm _ [] [_] rfl rfl rfl ?_; refine JE_ret (vs := [_]) [vCells (some ⟨g6, 0, none⟩) (i64s (zs (List.range n)))] Tryz.results33 ⟨rfl, rfl⟩ ?_ ?_
  · exact ⟨some ⟨g6, 0, none⟩, n, by rw [zs_length, List.length_range]; rfl, rfl⟩
  · exact (all_cons am all_nil)

set_option maxHeartbeats 1000000 in
theorem fact_con {ada : Option Addr} {ca : Nat} {A : List Rw} (hA : A.length ≤ 6) (hca : A.length ≤ ca ∧ ca ≤ 9223372036854775807) (hAr : ∀ r ∈ A, r.L.length ≤ 1000) :
    ConF Tryz.prog 37 [.slice ada A.length ca] [vCells ada (rws A), vRws A]
      (fun v φo => v = .int .i64 (facA (Rls A) A.length : Nat) ∧ φo = []) := by
 refine ConF_of Tryz.func37 rfl 35 (_ :: rp 34) rfl rfl ?_; intro w0; refine JC_st [] [_, _] ?_; refine JC_sr ?_; refine JL_a ?_; refine JL_dv 35 ?_; refine JC_sr ?_; refine JL_a ?_; refine JL_dv 35 ?_; refine JC_seq ?_; refine JC_sr ?_; refine JL_m ?_; refine JL_len sl41 rfl ?_; refine JL_m ?_; refine JL_dv 35 ?_; refine JC_block ?_; refine JC_loopS ((Nat) × (Nat)) (fun (i, m) => i ≤ A.length ∧ m = facA (Rls A) i) (fun (i, m) => A.length - i) (fun u (i, m) => (rn 3 (some (.int .i64 (m : Nat)) :: sc u 4 3 (none :: some (u 8) :: rn 2 (some (.int .i64 (i : Nat)) :: sc u 12 22 []))))) (fun (i, m) => []) (fun (i, m) => []) (0, 1) kr ?_ kr ?_ ?_
 · exact ⟨Nat.zero_le _, rfl⟩
 · exact subset_nil
 intro u i hC; obtain ⟨i, m⟩ := i; obtain ⟨hi, hm⟩ := hC; refine JC_nm 35 [] [_, _] ?_; refine JC_sr ?_; refine JL_lss rfl rfl ?_; refine JL_split (fun h12 => ?_) (fun h12 => ?_)
 ·refine JL_dv 35 ?_; refine JC_seq ?_; refine JC_true rfl ?_; refine JC_skip ?_; refine JE_then ?_; refine JC_seq ?_; refine JC_block ?_; refine JC_seq ?_
  have hkm := rw_mem (l := A) (i := i) om
  refine JC_rwGet (f := false) (A.getD i dR) am hkm ?_; refine JC_region ?_; refine JL_m ?_; refine JL_idx i sl41 rfl rfl om om rdg (by rw [rws_length]; omega) ?_; refine JL_loadE ty22 rfl rdg (rws_get om) ?_; refine JL_a ?_; refine JL_a ?_; refine JL_dv 35 ?_; refine JC_sr ?_; refine JL_a ?_; refine JL_dv 35 ?_; refine JC_seq ?_; refine JC_sr ?_; refine JL_m ?_; refine JL_m ?_; refine JL_sliceTo i sl41 rfl rfl rfl om ?_; refine JL_len sl41 rfl ?_; refine JL_m ?_; refine JL_du 35 [] [_, _, _] ?_; refine JC_block ?_; refine JC_loopS ((Nat) × (Nat)) (fun (j, k) => j ≤ i ∧ k = 1 + ((Rls A).take j).count (A.getD i dR).L ∧ k ≤ 1 + j) (fun (j, k) => i - j) (fun u (j, k) => (rn 6 (some (.int .i64 (k : Nat)) :: none :: some (u 8) :: rn 11 (some (.int .i64 (j : Nat)) :: sc u 21 9 [])))) (fun (j, k) => []) (fun (j, k) => []) (0, 1) kr ?_ kr ?_ ?_
  · exact ⟨Nat.zero_le _, by rw [List.take_zero]; rfl, Nat.le_refl _⟩
  · exact subset_nil
  intro u i hC; obtain ⟨j, k⟩ := i; obtain ⟨hj, hkk, hkb⟩ := hC; refine JC_nm 35 [] [_, _, _] ?_; refine JC_sr ?_; refine JL_lss rfl rfl ?_; refine JL_split (fun h21 => ?_) (fun h21 => ?_)
  ·refine JL_dv 35 ?_; refine JC_seq ?_; refine JC_true rfl ?_; refine JC_skip ?_; refine JE_then ?_; refine JC_seq ?_; refine JC_block ?_; refine JC_seq ?_
   have hkj := rw_mem (l := A) (i := j) om
   refine JC_rwGet (f := false) (A.getD j dR) am hkj ?_; refine JC_region ?_; refine JL_idx j sl41 rfl rfl om om rdg (by rw [rws_length]; omega) ?_; refine JL_loadE ty22 rfl rdg (rws_get om) ?_; refine JL_a ?_; refine JL_dv 35 ?_; refine JC_sr ?_; refine JL_m ?_; refine JL_m ?_; refine JL_callF' (Asks.cons (holds_of_mem am) (Asks.cons (holds_of_mem am) Asks.nil)) (eq_con (by have := hAr _ hkm; omega) (by have := hAr _ hkj; omega)) rfl ca64 ⟨rfl, rfl, rfl⟩ ?_; rintro _ _ ⟨rfl, rfl⟩; refine JL_split (fun h26 => ?_) (fun h26 => ?_)
   ·refine JL_du 35 [] [_, _, _, _] ?_; refine JC_true rfl ?_; refine JC_region ?_; refine JL_m ?_; refine JL_add_to rfl rfl i6o ?_; refine JL_a ?_; refine JL_nv 35 ?_; refine JE_block_normal ?_; refine JE_then ?_; refine JC_region ?_; refine JL_add_to rfl rfl i6o ?_; refine JL_m ?_; refine JL_nv 35 ?_; refine JE_nextS (j + 1, k + 1) kr ?_ ?_ kr ?_
    · exact ⟨by omega, by rw [count_take (by rw [Rls_len]; omega), ← Rls_get (show j < A.length by omega), if_pos h26.symm, hkk, Nat.add_assoc], by omega⟩
    · first | omega | (dsimp only; omega)
    · exact subset_app subset_nil (ssS ss0)
   ·refine JL_du 35 [] [_, _, _, _] ?_; refine JC_false rfl ?_; refine JC_skip ?_; refine JE_block_normal ?_; refine JE_then ?_; refine JC_region ?_; refine JL_add_to rfl rfl i6o ?_; refine JL_m ?_; refine JL_nv 35 ?_; refine JE_nextS (j + 1, k) kr ?_ ?_ kr ?_
    · exact ⟨by omega, by rw [count_take (by rw [Rls_len]; omega), ← Rls_get (show j < A.length by omega), if_neg (fun e => h26 e.symm), hkk, Nat.add_zero], by omega⟩
    · first | omega | (dsimp only; omega)
    · exact subset_app subset_nil (ssS ss0)
  ·refine JL_dv 35 ?_; refine JC_seq ?_; refine JC_false rfl ?_; refine JC_exit ?_; refine JE_then_exit ?_; refine JE_nextS_exit ?_; refine JE_block_exit ?_; refine JE_then ?_
   have hsm := facA_small (Rls A) (by rw [Rls_len]; omega) (i := i) (by rw [Rls_len]; omega) (k := k) om
   rw [← hm] at hsm; refine JC_region ?_; refine JL_m ?_; refine JL_m ?_; refine JL_mul_to rfl rfl i6o ?_; rw [show (((m : Nat) : Int) * ((k : Nat) : Int) : Int) = ((m * k : Nat) : Int) from (Int.natCast_mul m k).symm]; refine JL_a ?_; refine JL_nv 35 ?_; refine JE_block_normal ?_; refine JE_then ?_; refine JC_region ?_; refine JL_add_to rfl rfl i6o ?_; refine JL_m ?_; refine JL_nv 35 ?_; refine JE_nextS (i + 1, m * k) kr ?_ ?_ kr ?_
   · exact ⟨by omega, by rw [facA, ← hm, ← Rls_get (show i < A.length by omega), hkk, show j = i by omega]⟩
   · first | omega | (dsimp only; omega)
   · exact subset_app subset_nil (ssS ss0)
 ·refine JL_dv 35 ?_; refine JC_seq ?_; refine JC_false rfl ?_; refine JC_exit ?_; refine JE_then_exit ?_; refine JE_nextS_exit ?_; refine JE_block_exit ?_; refine JE_then ?_; refine JC_sr ?_; refine JL_m ?_; refine JL_a ?_; refine JL_dv 35 ?_; refine JC_ret ?_; refine JE_ret (vs := [_]) [] Tryz.results37 ⟨rfl, rfl⟩ ?_ ?_
  · exact ⟨by rw [hm, show i = A.length by omega]; rfl, rfl⟩
  · exact all_nil

end Go.Fw.K
