/- Walks through functions of the given program: each meets its contract. (Printed by a program of this repo.) -/
import Derived.Test.YtmambmpohkollaaGreatDoorA7
import Derived.Test.YtmambmpohkollaaGreatDoorCnKM
import Derived.Test.YtmambmpohkollaaGreatDoorProg
namespace Go.Fw.A8
open Go Go.RowKit Go.Proofs Go.Nat9 Go.Fw
attribute [local irreducible] JC JL JE
theorem ca44 : callable Tryz.prog 44 = true := by kernel_rfl
theorem ca76 : callable Tryz.prog 76 = true := by kernel_rfl
theorem fo25_0 : fOf Tryz.prog 25 0 = some 0 := by kernel_rfl
theorem fo25_1 : fOf Tryz.prog 25 1 = some 1 := by kernel_rfl
theorem fo25_2 : fOf Tryz.prog 25 2 = some 2 := by kernel_rfl
theorem fo66_1 : fOf Tryz.prog 66 1 = some 1 := by kernel_rfl
theorem fo66_2 : fOf Tryz.prog 66 2 = some 2 := by kernel_rfl
theorem sl22 : slOf Tryz.prog 22 = some (3, 1, 8, [.int .i64 0]) := by kernel_rfl
theorem sl23 : slOf Tryz.prog 23 = some (66, 3, 24, [.int .i64 0, .int .i64 0, .int .i64 0]) := by kernel_rfl
theorem sl41 : slOf Tryz.prog 41 = some (22, 1, 24, [.slice none 0 0]) := by kernel_rfl
theorem ty22 : tyOf Tryz.prog 22 = some (false, 1) := by kernel_rfl
theorem ty23 : tyOf Tryz.prog 23 = some (false, 1) := by kernel_rfl
theorem ty25 : tyOf Tryz.prog 25 = some (true, 3) := by kernel_rfl
theorem ty3 : tyOf Tryz.prog 3 = some (false, 1) := by kernel_rfl
theorem ty66 : tyOf Tryz.prog 66 = some (true, 3) := by kernel_rfl
theorem z66 : zeroOf Tryz.prog 66 = some [.int .i64 0, .int .i64 0, .int .i64 0] := by kernel_rfl
end Go.Fw.A8
namespace Go.Fw.K
open Go Go.RowKit Go.Proofs Go.Nat9 Go.Fw Go.Fw.A8
attribute [local irreducible] JC JL JE

open Go.Fw.Cn
set_option maxHeartbeats 8000000 in
theorem mat13_con {a1 a2 a3 : Option Addr} {c1 c2 c3 : Nat} {O R : List Int} {K : List Cn.Lk} (hO : O.length ≤ 1000) (hR : R.length ≤ 1000) (hK : K.length ≤ 1000) :
    ConF Tryz.prog 52 [.agg #[.slice a1 O.length c1, .slice a2 R.length c2, .slice a3 K.length c3]] [vCells a1 (i64s O), vCells a2 (i64s R), vCells a3 (lks K)]
      (fun v φo => ∃ (ad : Option Addr) (c : Nat) (D : List Rw) (e : Int), v = .tuple #[.slice ad D.length c, .int .i64 e] ∧ φo = [vCells ad (rws D), vRws D] ∧ ((valG O R K ∧ e = 0 ∧ Rls D = matG O R K) ∨ (¬ valG O R K ∧ e = 1 ∧ D = []))) := by
 refine ConF_of Tryz.func52 rfl 61 (_ :: rp 60) rfl rfl ?_; intro w0; refine JC_st [] [_, _, _] ?_; refine JC_sr ?_; refine JL_box rfl rfl (fun b1 => ?_); refine JL_a ?_; refine JL_a ?_; refine JL_du 61 [box _ _ [_, _, _]] [_, _, _] ?_; refine JC_seq ?_; refine JC_sr ?_; refine JL_loadA (vs := [_, _, _]) 0 ty25 rfl rfl ⟨rfl, rfl, rfl, trivial⟩ ?_; refine JL_callF' (Asks.cons (holds_of_mem am) (Asks.cons (holds_of_mem am) (Asks.cons (holds_of_mem am) Asks.nil))) (valid_con om om om) rfl ca44 ⟨rfl, rfl⟩ ?_; rintro _ _ ⟨rfl, rfl⟩; refine JL_split (fun h12 => ?_) (fun h12 => ?_)
 ·refine JL_not rfl ?_; rw [Bool.not_true]; refine JL_du 61 [box _ _ [_, _, _]] [_, _, _] ?_; refine JC_false rfl ?_; refine JC_skip ?_; refine JE_then ?_; refine JC_seq ?_
  have hv := h12
  refine JC_region ?_; refine JL_a ?_; refine JL_dv 61 ?_; refine JC_seq ?_; refine JC_sr ?_; refine JL_fieldAddr fo25_0 rfl ?_; refine JL_load 0 ty22 rfl rfl rfl ?_; refine JL_len sl22 rfl ?_; refine JL_m ?_; refine JL_dv 61 ?_; refine JC_block ?_; refine JC_addNil 22 1 ?_; refine JC_nw [box _ _ [_, _, _], osl _ _ _ _ _ _] [_, _, _] ?_; refine JC_loopK 2 ((Nat) × (List Rw) × (Option Addr) × (Nat)) (fun (i, D, adh, ch) => i ≤ O.length ∧ D.length = i ∧ Rls D = List.replicate i (List.replicate R.length 0)) (fun (i, D, adh, ch) => O.length - i) (fun u (i, D, adh, ch) => (rn 4 (some (.slice adh D.length ch) :: rn 12 (some (.int .i64 (i : Nat)) :: sc u 18 9 [])))) (fun (i, D, adh, ch) => (none :: [some (osl adh D.length ch 22 1 (rws D))])) (fun (i, D, adh, ch) => rwO 3 D) (fun (i, D, adh, ch) => []) (0, [], none, 0) kr ?_ kr ?_ ?_
  · exact ⟨Nat.zero_le _, rfl, rfl⟩
  · exact subset_nil
  intro u i hC; obtain ⟨i, D, adh, ch⟩ := i; obtain ⟨hi, hDl, hDr⟩ := hC; refine JC_nm 61 (box _ _ [_, _, _] :: osl _ _ _ _ _ _ :: _) [_, _, _] ?_; refine JC_sr ?_; refine JL_lss rfl rfl ?_; refine JL_split (fun h18 => ?_) (fun h18 => ?_)
  ·refine JL_dv 61 ?_; refine JC_seq ?_; refine JC_true rfl ?_; refine JC_skip ?_; refine JE_then ?_; refine JC_seq ?_; refine JC_block ?_; refine JC_region ?_; refine JL_m ?_; refine JL_fieldAddr fo25_1 rfl ?_; refine JL_load 0 ty22 rfl rfl rfl ?_; refine JL_len sl22 rfl ?_; refine JL_make1 R.length R.length sl22 rfl rfl rfl rfl (Nat.le_refl _) om om (fun g23 => ?_); rw [i64s_replicate]; refine JL_rowIn (σ1 := [_, _]) (D := D) (E := 3) (⟨some ⟨g23, 0, none⟩, R.length, List.replicate R.length 0⟩ : Rw) List.length_replicate ?_; refine JL_norm _ (box _ _ [_, _, _] :: osl _ _ _ _ _ _ :: _) [_, _, _] rfl rfl rfl ?_; refine JL_build1 (v := .slice (some ⟨g23, 0, none⟩) R.length R.length) sl41 rfl rfl (fun g24 => ?_); refine JL_giveLast ?_; rw [show [Value.slice (some ⟨g23, 0, none⟩) R.length R.length] = rws [(⟨some ⟨g23, 0, none⟩, R.length, List.replicate R.length 0⟩ : Rw)] from by show _ = [Value.slice _ (List.replicate R.length (0 : Int)).length _]; rw [List.length_replicate]]
   refine JL_append (news := rws [(⟨some ⟨g23, 0, none⟩, R.length, List.replicate R.length 0⟩ : Rw)]) 1 sl41 rfl (by decide) rfl rfl rfl (by rw [rws_length]; rfl) (Reads.view am) (rws_one _) om om (fun ad25 cap25 hc25 => ?_); refine JL_norm _ (box _ _ [_, _, _] :: osl _ _ _ _ _ _ :: _) [_, _, _, _] rfl rfl rfl ?_; rw [rws_app, show D.length + 1 = (D ++ [(⟨some ⟨g23, 0, none⟩, R.length, List.replicate R.length 0⟩ : Rw)]).length from (by rw [List.length_append]; rfl)]; refine JL_a ?_; refine JL_nu 61 (box _ _ [_, _, _] :: osl _ _ _ _ _ _ :: _) [_, _, _, _] ?_; refine JE_block_normal ?_; refine JE_then ?_; refine JC_region ?_; refine JL_add_to rfl rfl i6o ?_; refine JL_m ?_; refine JL_nv 61 ?_; refine JE_nextW (i + 1, D ++ [(⟨some ⟨g23, 0, none⟩, R.length, List.replicate R.length 0⟩ : Rw)], ad25, cap25) kr ?_ ?_ kr ?_
   · exact ⟨by omega, by rw [List.length_append, hDl]; rfl, by rw [Rls, List.map_append, show List.map Rw.L D = List.replicate i (List.replicate R.length 0) from hDr, List.replicate_succ']; rfl⟩
   · first | omega | (dsimp only; omega)
   · exact subset_app subset_nil (ssS ss0)
  ·refine JL_dv 61 ?_; refine JC_seq ?_; refine JC_false rfl ?_; refine JC_exit ?_; refine JE_then_exit ?_; refine JE_nextW_exit ?_; refine JE_block_exit ?_; refine JE_then ?_; refine JC_seq ?_; refine JC_seq ?_
   have hiO : i = O.length := by omega
   refine JC_region ?_; refine JL_fieldAddr fo25_2 rfl ?_; refine JL_load 0 ty23 rfl rfl rfl ?_; refine JL_len sl23 rfl ?_; refine JL_m ?_; refine JL_dv 61 ?_; refine JC_block ?_; refine JC_loopK 2 ((Nat) × (List Rw)) (fun (j, F) => j ≤ K.length ∧ rws F = rws D ∧ Rls F = matG O R (K.take j)) (fun (j, F) => K.length - j) (fun u (j, F) => (rn 6 (sc u 6 5 (rn 19 (some (.int .i64 (j : Nat)) :: sc u 31 29 []))))) (fun (j, F) => []) (fun (j, F) => rwO 3 F) (fun (j, F) => []) (0, D) kr ?_ kr ?_ ?_
   · exact ⟨Nat.zero_le _, rfl, by rw [List.take_zero, matG_nil, hDr, hiO]⟩
   · exact subset_nil
   intro u i hC; obtain ⟨j, F⟩ := i; obtain ⟨hj, hFD, hFm⟩ := hC; refine JC_nm 61 (box _ _ [_, _, _] :: osl _ _ _ _ _ _ :: _) [_, _, _] ?_
   have hFl : F.length = O.length := by have h := congrArg List.length hFm; rwa [Rls_len, matG_len] at h
   refine JC_sr ?_; refine JL_lss rfl rfl ?_; refine JL_split (fun h31 => ?_) (fun h31 => ?_)
   ·refine JL_dv 61 ?_; refine JC_seq ?_; refine JC_true rfl ?_; refine JC_skip ?_; refine JE_then ?_; refine JC_seq ?_; refine JC_block ?_; refine JC_sr ?_; refine JL_indexAddr j sl23 rfl rfl rfl om rdg (by rw [lks_length]; omega) ?_; refine JL_loadEA (vs := [_, _, _]) ty66 zp rfl rdg (lks_get om) ?_; refine JL_alloc z66 (fun b6 => ?_); refine JL_ins 2 ?_; refine JL_norm _ (box _ _ [_, _, _] :: osl _ _ _ _ _ _ :: box _ _ [_, _, _] :: _) [_, _, _] rfl rfl rfl ?_; refine JL_store (vs := [_, _, _]) 2 ty66 rfl rfl rfl ao3 rfl bleq ?_; refine JL_du 61 (box _ _ [_, _, _] :: osl _ _ _ _ _ _ :: box _ _ [_, _, _] :: _) [_, _, _] ?_; refine JC_seq ?_
    have hlj := hv.2.2.2.1 j om
    obtain ⟨hb1, hb2⟩ := bsI_get hv.1.1.asc hlj.2.2.2.1; obtain ⟨hb3, hb4⟩ := bsI_get hv.2.1.1.asc hlj.2.2.2.2; refine JC_region ?_; refine JL_fieldAddr fo25_0 rfl ?_; refine JL_load 0 ty22 rfl rfl rfl ?_; refine JL_fieldAddr fo66_1 rfl ?_; refine JL_load 2 ty3 rfl rfl rfl ?_; refine JL_callF' (Asks.cons (by first | exact holds_of_mem am | (exact holds_of_own 1 rfl)) Asks.nil) (bs_con om hv.1.1.asc) rfl ca76 ⟨rfl, rfl, rfl⟩ ?_; rintro _ _ ⟨rfl, rfl⟩; refine JL_m ?_; refine JL_extract (v := .int .i64 ((bsI (K.getD j dK).o O) : Nat)) rfl rfl ?_; refine JL_extract (v := .bool (decide ((K.getD j dK).o ∈ O))) rfl rfl ?_; refine JL_a ?_; refine JL_a ?_; refine JL_du 61 (box _ _ [_, _, _] :: osl _ _ _ _ _ _ :: box _ _ [_, _, _] :: _) [_, _, _] ?_; refine JC_sr ?_; refine JL_fieldAddr fo25_1 rfl ?_; refine JL_load 0 ty22 rfl rfl rfl ?_; refine JL_fieldAddr fo66_2 rfl ?_; refine JL_load 2 ty3 rfl rfl rfl ?_; refine JL_callF' (Asks.cons (by first | exact holds_of_mem am | (exact holds_of_own 1 rfl)) Asks.nil) (bs_con om hv.2.1.1.asc) rfl ca76 ⟨rfl, rfl, rfl⟩ ?_; rintro _ _ ⟨rfl, rfl⟩; refine JL_m ?_
    refine JL_extract (v := .int .i64 ((bsI (K.getD j dK).r R) : Nat)) rfl rfl ?_; refine JL_extract (v := .bool (decide ((K.getD j dK).r ∈ R))) rfl rfl ?_; refine JL_a ?_; refine JL_a ?_; refine JL_du 61 (box _ _ [_, _, _] :: osl _ _ _ _ _ _ :: box _ _ [_, _, _] :: _) [_, _, _] ?_
    have hb1F : (bsI (K.getD j dK).o O) < F.length := by omega
    have hrow : (F.getD (bsI (K.getD j dK).o O) dR).L = (matG O R (K.take j)).getD (bsI (K.getD j dK).o O) [] := by rw [Rls_get hb1F, hFm]
    have hrl : (F.getD (bsI (K.getD j dK).o O) dR).L.length = R.length := matG_row (O := O) (K := K.take j) (by rw [← hFm]; exact List.mem_map.2 ⟨_, rw_mem hb1F, rfl⟩)
    have hval : (F.getD (bsI (K.getD j dK).o O) dR).L.getD (bsI (K.getD j dK).r R) 0 = (cntK (K.take j) (O.getD (bsI (K.getD j dK).o O) 0) (R.getD (bsI (K.getD j dK).r R) 0) : Int) := by rw [hrow, matG_get hb1 hb3]
    have hcl := cntK_le (K.take j) (O.getD (bsI (K.getD j dK).o O) 0) (R.getD (bsI (K.getD j dK).r R) 0)
    rw [List.length_take] at hcl; refine JC_region ?_; refine JL_m ?_; refine JL_m ?_; refine JL_idx (bsI (K.getD j dK).o O) sl41 rfl rfl rfl om (Reads.own 1 rfl) (by rw [rws_length]; omega) ?_; refine JL_loadE ty22 rfl (Reads.own 1 rfl) (show (rws D)[(bsI (K.getD j dK).o O)]? = some (Value.slice (F.getD (bsI (K.getD j dK).o O) dR).ad (F.getD (bsI (K.getD j dK).o O) dR).L.length (F.getD (bsI (K.getD j dK).o O) dR).cap) from by rw [← hFD]; exact rws_get hb1F) ?_; refine JL_m ?_; refine JL_idx (bsI (K.getD j dK).r R) sl22 rfl rfl rfl om (Reads.row [_, _, _] 3 hb1F) lno ?_; refine JL_loadE ty3 rfl (Reads.row [_, _, _] 3 hb1F) (i64s_get om) ?_; refine JL_add_to rfl rfl i6o ?_; refine JL_idx (bsI (K.getD j dK).r R) sl22 rfl rfl rfl om (Reads.row [_, _, _] 3 hb1F) lno ?_; refine JL_storeRow [_, _, _] (bsI (K.getD j dK).o O) hb1F ty3 rfl rfl om ?_; refine JL_norm _ (box _ _ [_, _, _] :: osl _ _ _ _ _ _ :: box _ _ [_, _, _] :: _) [_, _, _] rfl rfl rfl ?_
    refine JL_nu 61 (box _ _ [_, _, _] :: osl _ _ _ _ _ _ :: box _ _ [_, _, _] :: _) [_, _, _] ?_; refine JE_block_normal ?_; refine JE_then ?_; refine JC_region ?_; refine JL_add_to rfl rfl i6o ?_; refine JL_m ?_; refine JL_nv 61 ?_; refine JE_dropAt 2 ?_; refine JE_norm _ (box _ _ [_, _, _] :: osl _ _ _ _ _ _ :: _) [_, _, _] rfl rfl rfl ?_; refine JE_nextW (j + 1, F.set (bsI (K.getD j dK).o O) ⟨(F.getD (bsI (K.getD j dK).o O) dR).ad, (F.getD (bsI (K.getD j dK).o O) dR).cap, (F.getD (bsI (K.getD j dK).o O) dR).L.set (bsI (K.getD j dK).r R) ((F.getD (bsI (K.getD j dK).o O) dR).L.getD (bsI (K.getD j dK).r R) 0 + 1)⟩) kr ?_ ?_ kr ?_
    · exact ⟨by omega, by rw [rws_same hb1F (by show Value.slice _ (List.set _ _ _).length _ = _; rw [List.length_set])]; exact hFD, by rw [Rls, List.map_set, show List.map Rw.L F = matG O R (K.take j) from hFm, takeK_succ om, matG_step hv.1.1.asc hv.2.1.1.asc hlj.2.2.2.1 hlj.2.2.2.2, ← hrow]⟩
    · first | omega | (dsimp only; omega)
    · exact subset_app subset_nil ss0
   ·refine JL_dv 61 ?_; refine JC_seq ?_; refine JC_false rfl ?_; refine JC_exit ?_; refine JE_then_exit ?_; refine JE_nextW_exit ?_; refine JE_block_exit ?_; refine JE_then ?_; refine JC_seq ?_; refine JC_giveRows (σ1 := [_, _]) (D := F) (E := 3) ?_; rw [← hFD, show D.length = F.length by omega]; refine JC_region ?_; refine JL_m ?_; refine JL_a ?_; refine JL_a ?_; refine JL_dv 61 ?_; refine JC_ret ?_; refine JE_give 1 rfl ?_; refine JE_norm _ [box _ _ [_, _, _]] [_, _, _, _, _] rfl rfl rfl ?_; refine JE_ret (vs := [_, _]) [vCells adh (rws F), vRws F] Tryz.results52 ⟨rfl, rfl, rfl⟩ ?_ ?_
    · exact ⟨adh, ch, F, 0, rfl, rfl, .inl ⟨hv, rfl, by rw [hFm, show j = K.length by omega, List.take_length]⟩⟩
    · exact (all_cons am (all_cons am all_nil))
 ·refine JL_not rfl ?_; rw [Bool.not_false]; refine JL_du 61 [box _ _ [_, _, _]] [_, _, _] ?_; refine JC_true rfl ?_; refine JC_sr ?_; refine JL_a ?_; refine JL_a ?_; refine JL_dv 61 ?_; refine JC_ret ?_; refine JE_then_ret ?_; refine JE_rwNil ?_; refine JE_addView (f := true) (p := vCells none (rws [])) (fun _ _ j u hj => by cases hj) ?_; refine JE_ret (vs := [_, _]) [vCells none (rws []), vRws []] Tryz.results52 ⟨rfl, rfl, rfl⟩ ?_ ?_
  · exact ⟨none, 0, [], 1, rfl, rfl, .inr ⟨h12, rfl, rfl⟩⟩
  · exact (all_cons am (all_cons am all_nil))

end Go.Fw.K
