/- Walks through functions of the given program: each meets its contract. (Printed by a program of this repo.) -/
import Derived.Test.YtjkbamfcoiikmaaGreatDoorND
import Derived.Test.YtjkbamfcoiikmaaGreatDoorM22
import Derived.Test.YtjkbamfcoiikmaaGreatDoorW
import Derived.Test.YtjkbamfcoiikmaaGreatDoorProg
namespace Go.Fw.T6
open Go Go.RowKit Go.Proofs Go.Nat9 Go.Fw
attribute [local irreducible] JC JL JE
theorem ca11 : callable Tryz.prog 11 = true := by kernel_rfl
theorem ca12 : callable Tryz.prog 12 = true := by kernel_rfl
theorem ca13 : callable Tryz.prog 13 = true := by kernel_rfl
theorem ca14 : callable Tryz.prog 14 = true := by kernel_rfl
theorem ca18 : callable Tryz.prog 18 = true := by kernel_rfl
theorem ca20 : callable Tryz.prog 20 = true := by kernel_rfl
theorem ca23 : callable Tryz.prog 23 = true := by kernel_rfl
theorem ca24 : callable Tryz.prog 24 = true := by kernel_rfl
theorem ca25 : callable Tryz.prog 25 = true := by kernel_rfl
theorem ca26 : callable Tryz.prog 26 = true := by kernel_rfl
theorem ca27 : callable Tryz.prog 27 = true := by kernel_rfl
theorem ca28 : callable Tryz.prog 28 = true := by kernel_rfl
theorem ca29 : callable Tryz.prog 29 = true := by kernel_rfl
theorem ca8 : callable Tryz.prog 8 = true := by kernel_rfl
theorem ca9 : callable Tryz.prog 9 = true := by kernel_rfl
theorem pt25 : Tryz.prog.underlying 25 = some (.pointer (Tryz.prog.pointee 25)) := by kernel_rfl
theorem sl22 : slOf Tryz.prog 22 = some (32, 1, 24, [.slice none 0 0]) := by kernel_rfl
theorem sl32 : slOf Tryz.prog 32 = some (3, 1, 8, [.int .i64 0]) := by kernel_rfl
theorem ty32 : tyOf Tryz.prog 32 = some (false, 1) := by kernel_rfl
theorem ub4 : Tryz.prog.underlying 4 = some .bool := by kernel_rfl
end Go.Fw.T6
namespace Go.Fw.K
open Go Go.RowKit Go.Proofs Go.Nat9 Go.Fw Go.Fw.T6
attribute [local irreducible] JC JL JE

open Go.Fw.Pq
set_option maxHeartbeats 4000000 in
set_option maxRecDepth 20000 in
theorem pqtreeHas_conA {n : Int} (hm1 : -9223372036854775808 ≤ n) (hm2 : n ≤ 9223372036854775807) {ad : Option Addr} {c : Nat} {l : List Rw} (hc : l.length ≤ c ∧ c ≤ 9223372036854775807) {ad2 : Option Addr} {c2 : Nat} {L : List Int} :
    ConA Tryz.prog 5 [.int .i64 n, .slice ad l.length c, .slice ad2 L.length c2] [vCells ad (rws l), vRws l, vCells ad2 (i64s L)]
      (fun v φo => v = .bool true ∧ φo = []) := by
 have _ := hm1
 have _ := hm2
 refine ConA_of Tryz.func5 rfl 112 (_ :: _ :: _ :: rp 109) rfl rfl ?_; intro w0; refine JC_st [] [_, _, _] ?_; refine JC_sr ?_; refine JL_a ?_; refine JL_dv 112 ?_; refine JC_seq ?_; refine JC_sr ?_; refine JL_callF' Asks.nil (awake_con) rfl ca8 rfl ?_; rintro _ _ ⟨rfl, rfl⟩; refine JL_not rfl ?_; rw [Bool.not_true]; refine JL_m ?_; refine JL_gy ?_; refine JL_m ?_; refine JL_gy ?_; refine JL_callF' (Asks.cons (holds_of_mem am) Asks.nil) (few_con hc) rfl ca9 ⟨rfl, rfl⟩ ?_; rintro _ _ ⟨rfl, rfl⟩; refine JL_split (fun h16 => ?_) (fun h16 => ?_)
 ·refine JL_gy ?_; refine JL_not rfl ?_; rw [Bool.not_true]; refine JL_pick_f rfl rfl ?_; refine JL_m ?_; refine JL_gy ?_; refine JL_m ?_; refine JL_gy ?_; refine JL_len sl32 rfl ?_; refine JL_gy ?_; refine JL_gtr rfl rfl ?_; refine JL_split (fun h22 => ?_) (fun h22 => ?_)
  ·refine JL_pick_f rfl rfl ?_; refine JL_du 112 [] [_, _, _] ?_; refine JC_true rfl ?_; refine JC_sr ?_; refine JL_callF' Asks.nil (awake_con) rfl ca8 rfl ?_; rintro _ _ ⟨rfl, rfl⟩; refine JL_a ?_; refine JL_du 112 [] [_, _, _] ?_; refine JC_ret ?_; refine JE_then_ret ?_; refine JE_ret (vs := [_]) [] Tryz.results5 ⟨rfl, rfl⟩ ?_ ?_
   · exact ⟨rfl, rfl⟩
   · exact all_nil
  ·refine JL_pick_f rfl rfl ?_; refine JL_du 112 [] [_, _, _] ?_; refine JC_false rfl ?_; refine JC_skip ?_; refine JE_then ?_; refine JC_seq ?_
   rcases (by omega : (1 ≤ n ∧ n ≤ 16) ∨ (n < 1 ∨ 16 < n)) with hn | hn
   ·obtain ⟨m, rfl⟩ : ∃ m : Nat, n = (m : Int) := ⟨n.toNat, by omega⟩
    have hlo : 1 ≤ m := by omega
    have hhi : m ≤ 16 := by omega
    refine JC_region ?_; refine JL_m ?_; refine JL_m ?_; refine JL_callO0 (AsksO.cons am (AsksO.cons am AsksO.nil)) (built_con hlo hhi hc h16) rfl ca24 ⟨rfl, rfl, rfl⟩ ?_; rintro _ _ _ ⟨b27, a27, l27, ar27, cr27, rfl, rfl, rfl, hf27, hT27, hl27⟩; refine JL_norm _ [box _ _ [_, _, _], osl _ _ _ _ _ _] [_, _, _, _, _] rfl rfl rfl ?_; refine JL_a ?_; refine JL_du 112 [box _ _ [_, _, _], osl _ _ _ _ _ _] [_, _, _, _, _] ?_; refine JC_seq ?_; refine JC_sr ?_; refine JL_m ?_; refine JL_eqlPtr pt25 rfl rfl ?_; refine JL_splitV (fun h29 => ?_) (fun h29 => ?_)
    · exact absurd h29 Bool.false_ne_true
    ·refine JL_dv 112 ?_; refine JC_false rfl ?_; refine JC_skip ?_; refine JE_then ?_; refine JC_sr ?_; refine JL_m ?_; refine JL_callO0 AsksO.nil (rnew_con hlo hhi) rfl ca11 ⟨rfl, rfl⟩ ?_; rintro _ _ _ ⟨b70, t70, rfl, rfl, rfl, hf70, hn70⟩; refine JL_norm _ [box _ _ [_, _, _], osl _ _ _ _ _ _, box _ _ [_, _, _, _]] [_, _, _, _, _, _] rfl rfl rfl ?_; refine JL_m ?_; refine JL_extract (v := .pointer (some ⟨b70, 0, none⟩)) rfl rfl ?_; refine JL_extract (v := .int .i64 0) rfl rfl ?_; refine JL_a ?_; refine JL_a ?_; refine JL_du 112 [box _ _ [_, _, _], osl _ _ _ _ _ _, box _ _ [_, _, _, _]] [_, _, _, _, _, _] ?_; refine JC_seq ?_; refine JC_sr ?_; refine JL_m ?_; refine JL_neq rfl rfl ?_; refine JL_split (fun h74 => ?_) (fun h74 => ?_)
     · exact absurd rfl h74
     ·refine JL_dv 112 ?_; refine JC_false rfl ?_; refine JC_skip ?_; refine JE_then ?_; refine JC_seq ?_; refine JC_sr ?_; refine JL_a ?_; refine JL_dv 112 ?_; refine JC_block ?_; refine JC_addNil 3 1 ?_; refine JC_nw [box _ _ [_, _, _], osl _ _ _ _ _ _, box _ _ [_, _, _, _], osl _ _ _ _ _ _] [_, _, _, _, _, _] ?_; refine JC_loopS ((Nat) × (AT)) (fun (i, r) => i ≤ l.length ∧ Fit r ∧ er r = (bT m (Rls (l.take i))).1) (fun (i, r) => l.length - i) (fun u (i, r) => (rn 10 (some (.int .i64 (i : Nat)) :: rn 64 (sc u 75 12 [])))) (fun (i, r) => (rn 2 [some (box b70 69 [.int .i64 (m : Nat), .int .i64 (r).kind, .int .i64 ((r).col : Nat), .slice (r).kad (r).kids.length (r).kcap])])) (fun (i, r) => [(true, vN r)]) (0, t70) (by kernel_rfl) ?_ (by kernel_rfl) ?_ ?_
      · exact ⟨Nat.zero_le _, hf70, ref_zero hn70⟩
      · exact (subset_cons am subset_nil)
      intro u i hC; obtain ⟨i, r⟩ := i; obtain ⟨hi, hF, hE⟩ := hC; refine JC_nm 112 [box _ _ [_, _, _], osl _ _ _ _ _ _, box _ _ [_, _, _, _], osl _ _ _ _ _ _] [_, _, _, _, _, _, _] ?_; refine JC_seq ?_; refine JC_sr ?_; refine JL_m ?_; refine JL_m ?_; refine JL_len sl22 rfl ?_; refine JL_lss rfl rfl ?_; refine JL_split (fun h78 => ?_) (fun h78 => ?_)
      ·refine JL_dv 112 ?_; refine JC_true rfl ?_; refine JC_skip ?_; refine JE_then ?_; refine JC_seq ?_; refine JC_block ?_
       have hkm := rw_mem (l := l) (i := i) (by omega)
       have hrl := h16.row hkm
       have hTr : Tn m (er r) := by rw [hE]; exact bT_Tn hlo _
       refine JC_rwGet (f := true) (l.getD i dR) am hkm ?_; refine JC_region ?_; refine JL_rot 2 ?_; refine JL_norm _ [box _ _ [_, _, _, _], osl _ _ _ _ _ _, box _ _ [_, _, _], osl _ _ _ _ _ _] [_, _, _, _, _, _, _, _] rfl rfl rfl ?_; refine JL_m ?_; refine JL_m ?_; refine JL_m ?_; refine JL_idx i sl22 rfl rfl (by omega) (by omega) (by first | exact Reads.view am | (exact Reads.own 1 rfl) | (exact Reads.own 3 rfl)) (by rw [rws_length]; omega) ?_; refine JL_loadE ty32 rfl (by first | exact Reads.view am | (exact Reads.own 1 rfl) | (exact Reads.own 3 rfl)) (rws_get (by omega)) ?_; refine JL_callO (AsksO.cons am (AsksO.cons am AsksO.nil)) (rtred_con hhi hF hTr (by omega)) rfl ca13 ⟨rfl, rfl, rfl⟩ ?_; rintro _ _ _ ⟨t86, rfl, rfl, rfl, hf86, he86⟩; refine JL_rot 2 ?_; refine JL_norm _ [box _ _ [_, _, _], osl _ _ _ _ _ _, box _ _ [_, _, _, _], osl _ _ _ _ _ _] [_, _, _, _, _, _, _, _, _] rfl rfl rfl ?_; refine JL_nu 112 [box _ _ [_, _, _], osl _ _ _ _ _ _, box _ _ [_, _, _, _], osl _ _ _ _ _ _] [_, _, _, _, _, _, _, _, _] ?_; refine JE_block_normal ?_; refine JE_then ?_; refine JC_region ?_; refine JL_m ?_
       refine JL_add_to rfl rfl (IntWalk.i64_in _ (by omega)) ?_; refine JL_a ?_; refine JL_nv 112 ?_; refine JE_nextS (i + 1, t86) (by kernel_rfl) ?_ ?_ (by kernel_rfl) ?_
       · exact ⟨by omega, hf86, ref_step hE (by omega) he86⟩
       · first | omega | (dsimp only; omega)
       · exact subset_app (subset_cons am subset_nil) (ssS (ssS (ssS ss0)))
      ·refine JL_dv 112 ?_; refine JC_false rfl ?_; refine JC_exit ?_; refine JE_then_exit ?_; refine JE_nextS_exit ?_; refine JE_block_exit ?_; refine JE_then ?_; refine JC_seq ?_
       have hN27 : Tn m (er a27) := by have h := bT_Tn (n := m) hlo (Rls l); rw [← hT27] at h; exact h
       have hre : er r = er a27 := ref_end hE (by omega) hT27
       have hWs := (bT_ord hlo (Rls l)).2
       rw [← hT27] at hWs
       have hTr : Tn m (er r) := by rw [hre]; exact hN27
       obtain ⟨hF1, hF2⟩ := has_fst hlo hT27 hN27
       have hzl : (zs (fstT (er a27))).length ≤ 16 := by rw [zs_length, fst_len hN27.ok hN27.nodup, hN27.lvs_len]; omega
       refine JC_region ?_; refine JL_m ?_; refine JL_callF' (Asks.cons (by first | exact holds_of_mem am | (exact holds_of_box 0 rfl) | (exact holds_of_own 1 rfl) | (exact holds_of_box 2 rfl) | (exact holds_of_own 3 rfl)) (Asks.cons (by first | exact holds_of_mem am | (exact holds_of_box 0 rfl) | (exact holds_of_own 1 rfl) | (exact holds_of_box 2 rfl) | (exact holds_of_own 3 rfl)) Asks.nil)) (tfront_con hf27 hN27 hhi) rfl ca25 ⟨rfl, rfl⟩ ?_; rintro _ _ ⟨ad88, c88, rfl, hc88, rfl⟩; refine JL_a ?_; refine JL_du 112 [box _ _ [_, _, _], osl _ _ _ _ _ _, box _ _ [_, _, _, _], osl _ _ _ _ _ _] [_, _, _, _, _, _, _, _] ?_; refine JC_sr ?_; refine JL_m ?_; refine JL_m ?_
       refine JL_callF' (Asks.cons (by first | exact holds_of_mem am | (exact holds_of_box 0 rfl) | (exact holds_of_own 1 rfl) | (exact holds_of_box 2 rfl) | (exact holds_of_own 3 rfl)) (Asks.cons (by first | exact holds_of_mem am | (exact holds_of_box 0 rfl) | (exact holds_of_own 1 rfl) | (exact holds_of_box 2 rfl) | (exact holds_of_own 3 rfl)) (Asks.cons (by first | exact holds_of_mem am | (exact holds_of_box 0 rfl) | (exact holds_of_own 1 rfl) | (exact holds_of_box 2 rfl) | (exact holds_of_own 3 rfl)) (Asks.cons (by first | exact holds_of_mem am | (exact holds_of_box 0 rfl) | (exact holds_of_own 1 rfl) | (exact holds_of_box 2 rfl) | (exact holds_of_own 3 rfl)) Asks.nil)))) (has_con (by omega) (fun r hr => by have := hWs r.L (List.mem_map.2 ⟨r, hr, rfl⟩); exact Nat.le_trans (asc_len this.1) (by omega)) (by omega) (by omega)) rfl ca23 ⟨rfl, rfl, rfl⟩ ?_; rintro _ _ ⟨rfl, rfl⟩; refine JL_m ?_; refine JL_m ?_
       refine JL_callF' (Asks.cons (by first | exact holds_of_mem am | (exact holds_of_box 0 rfl) | (exact holds_of_own 1 rfl) | (exact holds_of_box 2 rfl) | (exact holds_of_own 3 rfl)) (Asks.cons (by first | exact holds_of_mem am | (exact holds_of_box 0 rfl) | (exact holds_of_own 1 rfl) | (exact holds_of_box 2 rfl) | (exact holds_of_own 3 rfl)) (Asks.cons (by first | exact holds_of_mem am | (exact holds_of_box 0 rfl) | (exact holds_of_own 1 rfl) | (exact holds_of_box 2 rfl) | (exact holds_of_own 3 rfl)) Asks.nil))) (rhas2_con hF hTr hhi (by omega)) rfl ca29 ⟨rfl, rfl, rfl⟩ ?_; rintro _ _ ⟨b94, rfl, rfl, hb94⟩; rw [has_ref hlo hT27 (by rw [← hre]; exact hb94)]; refine JL_eqlB ub4 rfl rfl ?_; rw [beq_self_eq_true]; refine JL_m ?_; refine JL_gy ?_; refine JL_m ?_; refine JL_gy ?_; refine JL_m ?_; refine JL_gy ?_
       refine JL_callF' (Asks.cons (by first | exact holds_of_mem am | (exact holds_of_box 0 rfl) | (exact holds_of_own 1 rfl) | (exact holds_of_box 2 rfl) | (exact holds_of_own 3 rfl)) (Asks.cons (by first | exact holds_of_mem am | (exact holds_of_box 0 rfl) | (exact holds_of_own 1 rfl) | (exact holds_of_box 2 rfl) | (exact holds_of_own 3 rfl)) (Asks.cons (by first | exact holds_of_mem am | (exact holds_of_box 0 rfl) | (exact holds_of_own 1 rfl) | (exact holds_of_box 2 rfl) | (exact holds_of_own 3 rfl)) (Asks.cons (by first | exact holds_of_mem am | (exact holds_of_box 0 rfl) | (exact holds_of_own 1 rfl) | (exact holds_of_box 2 rfl) | (exact holds_of_own 3 rfl)) Asks.nil)))) (has_con (by omega) (fun r hr => by have := hWs r.L (List.mem_map.2 ⟨r, hr, rfl⟩); exact Nat.le_trans (asc_len this.1) (by omega)) (by omega) (by omega)) rfl ca23 ⟨rfl, rfl, rfl⟩ ?_; rintro _ _ ⟨rfl, rfl⟩; rw [decide_eq_true (p := hasP m (Rls l27) (zs (fstT (er a27)))) hF1]; refine JL_pick_t rfl rfl ?_; refine JL_m ?_; refine JL_gy ?_; refine JL_m ?_; refine JL_gy ?_; refine JL_m ?_; refine JL_gy ?_
       refine JL_callF' (Asks.cons (by first | exact holds_of_mem am | (exact holds_of_box 0 rfl) | (exact holds_of_own 1 rfl) | (exact holds_of_box 2 rfl) | (exact holds_of_own 3 rfl)) (Asks.cons (by first | exact holds_of_mem am | (exact holds_of_box 0 rfl) | (exact holds_of_own 1 rfl) | (exact holds_of_box 2 rfl) | (exact holds_of_own 3 rfl)) (Asks.cons (by first | exact holds_of_mem am | (exact holds_of_box 0 rfl) | (exact holds_of_own 1 rfl) | (exact holds_of_box 2 rfl) | (exact holds_of_own 3 rfl)) Asks.nil))) (rhas2_con hF hTr hhi (by omega)) rfl ca29 ⟨rfl, rfl, rfl⟩ ?_; rintro _ _ ⟨b104, rfl, rfl, hb104⟩; obtain rfl : b104 = true := hb104.2 (by rw [hre]; exact hF2); refine JL_pick_t rfl rfl ?_; refine JL_m ?_; refine JL_gy ?_; refine JL_m ?_; refine JL_gy ?_; refine JL_m ?_; refine JL_gy ?_
       refine JL_callF' (Asks.cons (by first | exact holds_of_mem am | (exact holds_of_box 0 rfl) | (exact holds_of_own 1 rfl) | (exact holds_of_box 2 rfl) | (exact holds_of_own 3 rfl)) (Asks.cons (by first | exact holds_of_mem am | (exact holds_of_box 0 rfl) | (exact holds_of_own 1 rfl) | (exact holds_of_box 2 rfl) | (exact holds_of_own 3 rfl)) Asks.nil)) (tfirst_con hf27 hN27 hhi) rfl ca20 ⟨rfl, rfl⟩ ?_; rintro _ _ ⟨ad109, c109, rfl, hc109, rfl⟩; refine JL_gy ?_
       refine JL_callF' (Asks.cons (by first | exact holds_of_mem am | (exact holds_of_box 0 rfl) | (exact holds_of_own 1 rfl) | (exact holds_of_box 2 rfl) | (exact holds_of_own 3 rfl)) (Asks.cons (by first | exact holds_of_mem am | (exact holds_of_box 0 rfl) | (exact holds_of_own 1 rfl) | (exact holds_of_box 2 rfl) | (exact holds_of_own 3 rfl)) (Asks.cons (by first | exact holds_of_mem am | (exact holds_of_box 0 rfl) | (exact holds_of_own 1 rfl) | (exact holds_of_box 2 rfl) | (exact holds_of_own 3 rfl)) (Asks.cons (by first | exact holds_of_mem am | (exact holds_of_box 0 rfl) | (exact holds_of_own 1 rfl) | (exact holds_of_box 2 rfl) | (exact holds_of_own 3 rfl)) Asks.nil)))) (has_con (by omega) (fun r hr => by have := hWs r.L (List.mem_map.2 ⟨r, hr, rfl⟩); exact Nat.le_trans (asc_len this.1) (by omega)) (by omega) (by omega)) rfl ca23 ⟨rfl, rfl, rfl⟩ ?_; rintro _ _ ⟨rfl, rfl⟩; rw [decide_eq_true (p := hasP m (Rls l27) (zs (fstT (er a27)))) hF1]; refine JL_pick_t rfl rfl ?_; refine JL_a ?_; refine JL_du 112 [box _ _ [_, _, _], osl _ _ _ _ _ _, box _ _ [_, _, _, _], osl _ _ _ _ _ _] [_, _, _, _, _, _, _, _, _] ?_; refine JC_ret ?_
       refine JE_ret (vs := [_]) [] Tryz.results5 ⟨rfl, rfl⟩ ?_ ?_
       · exact ⟨rfl, rfl⟩
       · exact all_nil
   ·refine JC_region ?_; refine JL_m ?_; refine JL_m ?_; refine JL_callF' (Asks.cons (holds_of_mem am) Asks.nil) (builtN_con hn hc) rfl ca24 ⟨rfl, rfl, rfl⟩ ?_; rintro _ _ ⟨rfl, rfl⟩; refine JL_a ?_; refine JL_du 112 [] [_, _, _] ?_; refine JC_seq ?_; refine JC_sr ?_; refine JL_m ?_; refine JL_eqlPtr pt25 rfl rfl ?_; refine JL_splitV (fun h29 => ?_) (fun h29 => ?_)
    ·refine JL_dv 112 ?_; refine JC_true rfl ?_; refine JC_sr ?_; refine JL_m ?_; refine JL_m ?_; refine JL_callF' Asks.nil (hasN_con) rfl ca23 ⟨rfl, rfl, rfl⟩ ?_; rintro _ _ ⟨rfl, rfl⟩; refine JL_not rfl ?_; rw [Bool.not_false]; refine JL_m ?_; refine JL_gy ?_; refine JL_m ?_; refine JL_gy ?_; refine JL_callF' Asks.nil (tfrontN_con) rfl ca25 ⟨rfl, rfl⟩ ?_; rintro _ _ ⟨rfl, rfl⟩; refine JL_gy ?_; refine JL_len sl32 rfl ?_; refine JL_gy ?_; refine JL_eql rfl rfl ?_; rw [decide_eq_true (p := ((0 : Nat) : Int) = 0) rfl]; refine JL_pick_t rfl rfl ?_; refine JL_m ?_; refine JL_gy ?_; refine JL_m ?_; refine JL_gy ?_; refine JL_callF' Asks.nil (tfirstN_con) rfl ca20 ⟨rfl, rfl⟩ ?_; rintro _ _ ⟨rfl, rfl⟩; refine JL_gy ?_; refine JL_len sl32 rfl ?_; refine JL_gy ?_; refine JL_eql rfl rfl ?_; rw [decide_eq_true (p := ((0 : Nat) : Int) = 0) rfl]; refine JL_pick_t rfl rfl ?_; refine JL_m ?_; refine JL_gy ?_; refine JL_m ?_; refine JL_gy ?_; refine JL_callF' Asks.nil (ttextN_con) rfl ca14 ⟨rfl, rfl⟩ ?_; rintro _ _ ⟨rfl, rfl⟩; refine JL_gy ?_; refine JL_eqlS rfl rfl ?_; refine JL_splitV (fun h49 => ?_) (fun h49 => ?_)
     ·refine JL_pick_t rfl rfl ?_; refine JL_m ?_; refine JL_gy ?_; refine JL_m ?_; refine JL_gy ?_; refine JL_callF' Asks.nil (tcloneN_con) rfl ca26 ⟨rfl, rfl⟩ ?_; rintro _ _ ⟨rfl, rfl⟩; refine JL_gy ?_; refine JL_eqlPtr pt25 rfl rfl ?_; refine JL_splitV (fun h54 => ?_) (fun h54 => ?_)
      ·refine JL_pick_t rfl rfl ?_; refine JL_m ?_; refine JL_gy ?_; refine JL_m ?_; refine JL_gy ?_; refine JL_addView (p := vCells none (u32s [])) (f := true) (fun _ _ j u hj => by simp [u32s] at hj) ?_; refine JL_callF' Asks.nil (tcountN_con) rfl ca18 ⟨rfl, rfl⟩ ?_; rintro _ _ ⟨rfl, rfl⟩; refine JL_gy ?_; refine JL_callF' Asks.nil (nat_of_con 0 (by omega)) rfl ca28 ⟨rfl, rfl⟩ ?_; rintro _ _ ⟨ad59, cap59, rfl, hk59, hm59, rfl⟩; refine JL_gy ?_; refine JL_callF' (Asks.cons (holds_of_mem am) (Asks.cons (holds_of_mem am) Asks.nil)) (nat_cmp_con none 0 0 [] 0 (by have h := NIn.of (x := 0) (K := 100000000) (by rw [limbsOf_zero]; decide); rw [limbsOf_zero] at h; exact h) _ _ _ (limbsOf 0) 0 (NIn.of (by rw [limbsOf_zero]; decide))) rfl ca27 ⟨rfl, rfl, rfl⟩ ?_; rintro _ _ ⟨rfl, rfl⟩; refine JL_gy ?_; refine JL_eql rfl rfl ?_; rw [decide_eq_true (p := cmpN 0 0 = 0) (by decide)]; refine JL_pick_t rfl rfl ?_; refine JL_m ?_; refine JL_gy ?_; refine JL_m ?_; refine JL_gy ?_; refine JL_callF' Asks.nil (tredN_con) rfl ca12 ⟨rfl, rfl, rfl⟩ ?_; rintro _ _ ⟨rfl, rfl⟩; refine JL_gy ?_; refine JL_eql rfl rfl ?_; rw [decide_eq_true (p := (1 : Int) = 1) rfl]
       refine JL_pick_t rfl rfl ?_; refine JL_a ?_; refine JL_du 112 [] [_, _, _, _, _] ?_; refine JC_ret ?_; refine JE_then_ret ?_; refine JE_ret (vs := [_]) [] Tryz.results5 ⟨rfl, rfl⟩ ?_ ?_
       · exact ⟨rfl, rfl⟩
       · exact all_nil
      · exact absurd h54 (by decide)
     · exact absurd h49 (by simp)
    · exact absurd h29 (by decide)
 ·refine JL_gy ?_; refine JL_not rfl ?_; rw [Bool.not_false]; refine JL_pick_f rfl rfl ?_; refine JL_m ?_; refine JL_gn ?_; refine JL_gn ?_; refine JL_gn ?_; refine JL_pick_t rfl rfl ?_; refine JL_du 112 [] [_, _, _] ?_; refine JC_true rfl ?_; refine JC_sr ?_; refine JL_callF' Asks.nil (awake_con) rfl ca8 rfl ?_; rintro _ _ ⟨rfl, rfl⟩; refine JL_a ?_; refine JL_du 112 [] [_, _, _] ?_; refine JC_ret ?_; refine JE_then_ret ?_; refine JE_ret (vs := [_]) [] Tryz.results5 ⟨rfl, rfl⟩ ?_ ?_
  · exact ⟨rfl, rfl⟩
  · exact all_nil

theorem pqtreeHas_con {n : Int} (hm1 : -9223372036854775808 ≤ n) (hm2 : n ≤ 9223372036854775807) {ad : Option Addr} {c : Nat} {l : List Rw} (hc : l.length ≤ c ∧ c ≤ 9223372036854775807) {ad2 : Option Addr} {c2 : Nat} {L : List Int} : ConF Tryz.prog 5 [.int .i64 n, .slice ad l.length c, .slice ad2 L.length c2] [vCells ad (rws l), vRws l, vCells ad2 (i64s L)] (fun v φo => v = .bool true ∧ φo = []) :=
  ConA.conF (pqtreeHas_conA hm1 hm2 hc) fun _ _ h => h.2

end Go.Fw.K
