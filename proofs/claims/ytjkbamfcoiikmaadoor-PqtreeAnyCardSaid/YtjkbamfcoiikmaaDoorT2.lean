/- Walks through functions of the given program: each meets its contract. (Printed by a program of this repo.) -/
import Derived.Test.YtjkbamfcoiikmaaDoorME
import Derived.Test.YtjkbamfcoiikmaaDoorProg
namespace Go.Fw.T2
open Go Go.RowKit Go.Proofs Go.Nat9 Go.Fw
attribute [local irreducible] JC JL JE
theorem ca10 : callable Tryd.prog 10 = true := by kernel_rfl
theorem ca11 : callable Tryd.prog 11 = true := by kernel_rfl
theorem ca12 : callable Tryd.prog 12 = true := by kernel_rfl
theorem ca13 : callable Tryd.prog 13 = true := by kernel_rfl
theorem ca14 : callable Tryd.prog 14 = true := by kernel_rfl
theorem ca15 : callable Tryd.prog 15 = true := by kernel_rfl
theorem ca16 : callable Tryd.prog 16 = true := by kernel_rfl
theorem ca5 : callable Tryd.prog 5 = true := by kernel_rfl
theorem ca6 : callable Tryd.prog 6 = true := by kernel_rfl
theorem ca9 : callable Tryd.prog 9 = true := by kernel_rfl
theorem pt26 : Tryd.prog.underlying 26 = some (.pointer (Tryd.prog.pointee 26)) := by kernel_rfl
theorem sl22 : slOf Tryd.prog 22 = some (23, 1, 24, [.slice none 0 0]) := by kernel_rfl
theorem ty23 : tyOf Tryd.prog 23 = some (false, 1) := by kernel_rfl
end Go.Fw.T2
namespace Go.Fw.K
open Go Go.RowKit Go.Proofs Go.Nat9 Go.Fw Go.Fw.T2
attribute [local irreducible] JC JL JE

open Go.Fw.Pq
set_option maxHeartbeats 4000000 in
theorem pqtreeAny_conA {n : Int} (hm1 : -9223372036854775808 ≤ n) (hm2 : n ≤ 9223372036854775807) {ad : Option Addr} {c : Nat} {l : List Rw} (hc : l.length ≤ c ∧ c ≤ 9223372036854775807) :
    ConA Tryd.prog 4 [.int .i64 n, .slice ad l.length c] [vCells ad (rws l), vRws l]
      (fun v φo => v = .bool true ∧ φo = []) := by
  have _ := hm1
  have _ := hm2
  refine ConA_of Tryd.func4 rfl 89 _ rfl rfl ?_; intro w0; refine JC_norm ⟨89, [], [_, _, _, _, _, _, _, _, _, _, _, _, _, _, _, _, _, _, _, _, _, _, _, _, _, _, _, _, _, _, _, _, _, _, _, _, _, _, _, _, _, _, _, _, _, _, _, _, _, _, _, _, _, _, _, _, _, _, _, _, _, _, _, _, _, _, _, _, _, _, _, _, _, _, _, _, _, _, _, _, _, _, _, _, _, _, _, _, _]⟩ [] [_, _] rfl rfl rfl ?_; refine JC_sr ?_; refine JL_assign rfl ?_; refine JL_du 89 [] [_, _] ?_; refine JC_seq ?_; refine JC_sr ?_; refine JL_callF' Asks.nil (awake_con) rfl ca5 rfl ?_; rintro _ _ ⟨rfl, rfl⟩; refine JL_not rfl ?_; rw [Bool.not_true]; refine JL_m ?_; refine JL_gy ?_; refine JL_m ?_; refine JL_gy ?_; refine JL_callF' (Asks.cons (holds_of_mem am) Asks.nil) (few_con hc) rfl ca6 ⟨rfl, rfl⟩ ?_; rintro _ _ ⟨rfl, rfl⟩; refine JL_split (fun h15 => ?_) (fun h15 => ?_)
  · refine JL_gy ?_; refine JL_not rfl ?_; rw [Bool.not_true]; refine JL_pick_f rfl rfl ?_; refine JL_du 89 [] [_, _] ?_; refine JC_false rfl ?_; refine JC_skip ?_; refine JE_then ?_; refine JC_seq ?_
    rcases (by omega : (1 ≤ n ∧ n ≤ 16) ∨ (n < 1 ∨ 16 < n)) with hn | hn
    · obtain ⟨m, rfl⟩ : ∃ m : Nat, n = (m : Int) := ⟨n.toNat, by omega⟩
      have hlo : 1 ≤ m := by omega
      have hhi : m ≤ 16 := by omega
      refine JC_region ?_; refine JL_m ?_; refine JL_m ?_; refine JL_callO0 (AsksO.cons am (AsksO.cons am AsksO.nil)) (acc_con hlo hhi hc h15) rfl ca11 ⟨rfl, rfl, rfl⟩ ?_; rintro _ _ _ ⟨b22, a22, l22, ar22, cr22, ad22, c22, rfl, rfl, rfl, hf22, hT22, hl22⟩; refine JL_norm _ [box _ _ [_, _, _], osl _ _ _ _ _ _] [_, _, _, _, _, _] rfl rfl rfl ?_; refine JL_m ?_; refine JL_extract (v := .slice ad22 (accS m l).2.length c22) rfl rfl ?_; refine JL_extract (v := .pointer (some ⟨b22, 0, none⟩)) rfl rfl ?_; refine JL_assign rfl ?_; refine JL_assign rfl ?_; refine JL_du 89 [box _ _ [_, _, _], osl _ _ _ _ _ _] [_, _, _, _, _, _] ?_; refine JC_sr ?_; refine JL_m ?_; refine JL_callO0 AsksO.nil (new_con hlo hhi) rfl ca12 ⟨rfl, rfl⟩ ?_; rintro _ _ _ ⟨b27, a27, rfl, rfl, rfl, hf27, hn27⟩; refine JL_norm _ [box _ _ [_, _, _], osl _ _ _ _ _ _, box _ _ [_, _, _], osl _ _ _ _ _ _] [_, _, _, _, _, _, _, _] rfl rfl rfl ?_; refine JL_m ?_; refine JL_extract (v := .pointer (some ⟨b27, 0, none⟩)) rfl rfl ?_; refine JL_extract (v := .int .i64 0) rfl rfl ?_; refine JL_assign rfl ?_; refine JL_assign rfl ?_
      refine JL_du 89 [box _ _ [_, _, _], osl _ _ _ _ _ _, box _ _ [_, _, _], osl _ _ _ _ _ _] [_, _, _, _, _, _, _, _] ?_; refine JC_seq ?_; refine JC_sr ?_; refine JL_m ?_; refine JL_neq rfl rfl ?_; refine JL_split (fun h31 => ?_) (fun h31 => ?_)
      · exact absurd rfl h31
      · refine JL_du 89 [box _ _ [_, _, _], osl _ _ _ _ _ _, box _ _ [_, _, _], osl _ _ _ _ _ _] [_, _, _, _, _, _, _, _] ?_; refine JC_false rfl ?_; refine JC_skip ?_; refine JE_then ?_; refine JC_seq ?_; refine JC_seq ?_; obtain ⟨l0, hA0, hCon⟩ := any_start hlo l
        have hAsc := (accS_ord hlo l).2
        have hrl := accS_len m l
        have hf14 := h15.2
        have hN22 : Tn m (er a22) := by have h := bT_Tn (n := m) hlo (Rls l); rw [← hT22] at h; exact h
        refine JC_region ?_; refine JL_m ?_; refine JL_len sl22 rfl ?_; refine JL_sub_to rfl rfl (IntWalk.i64_in _ (by omega)) ?_; refine JL_assign rfl ?_; refine JL_du 89 [box _ _ [_, _, _], osl _ _ _ _ _ _, box _ _ [_, _, _], osl _ _ _ _ _ _] [_, _, _, _, _, _, _, _] ?_; refine JC_block ?_
        refine JC_loopS ((Nat) × (AT) × (List Rw) × (Option Addr) × (Nat) × (List (List Nat))) (fun (k, a, R, ar, cr, S) => k ≤ (accS m l).2.length ∧ Fit a ∧ AnyI m (accS m l).2 l0 (er a) S ∧ R.length ≤ (accS m l).2.length - k ∧ ∀ j, k ≤ j → j < (accS m l).2.length → nr ((accS m l).2.getD j dR).L ∈ S) (fun (k, a, R, ar, cr, S) => k) (fun u (k, a, R, ar, cr, S) => [none, none, none, none, some (u 4), none, none, none, none, some (.int .i64 ((k : Nat) - 1 : Int)), none, none, none, none, none, none, none, none, none, none, none, none, none, none, none, none, none, none, none, none, none, none, none, none, none, none, none, none, none, none, none, none, none, none, none, none, some (u 46), some (u 47), some (u 48), some (u 49), some (u 50), some (u 51), some (u 52), some (u 53), some (u 54), some (u 55), some (u 56), none, none, none, none, none, none, none, none, none, none, none, none, none, none, none, none, none, none, none, none, none, none, none, none, none, none, none, none, none, none, none, none]) (fun (k, a, R, ar, cr, S) => [none, none, some (box b27 50 [.int .i64 (m : Nat), ptr a, .slice ar R.length cr]), some (osl ar R.length cr 23 1 (rws R))]) (fun (k, a, R, ar, cr, S) => [(true, vA a), (true, vRws R)]) ((accS m l).2.length, a27, [], none, 0, []) (by kernel_rfl) ?_ (by kernel_rfl) ?_ ?_
        · exact ⟨Nat.le_refl _, hf27, by rw [hn27]; exact hA0, Nat.zero_le _, fun j hj hj2 => absurd hj2 (by omega)⟩
        · exact (subset_cons am (subset_cons am subset_nil))
        intro u i hC; obtain ⟨k, a, R, ar, cr, S⟩ := i; obtain ⟨hk, hF, hA, hR, hS⟩ := hC; refine JC_nm 89 [box _ _ [_, _, _], osl _ _ _ _ _ _, box _ _ [_, _, _], osl _ _ _ _ _ _] [_, _, _, _, _, _, _, _, _, _] ?_; refine JC_seq ?_; refine JC_sr ?_; refine JL_m ?_; refine JL_geq rfl rfl ?_; refine JL_split (fun h47 => ?_) (fun h47 => ?_)
        · refine JL_du 89 [box _ _ [_, _, _], osl _ _ _ _ _ _, box _ _ [_, _, _], osl _ _ _ _ _ _] [_, _, _, _, _, _, _, _, _, _] ?_; refine JC_true rfl ?_; refine JC_skip ?_; refine JE_then ?_; refine JC_seq ?_; refine JC_block ?_; refine JC_seq ?_
          have hxm := rw_mem (l := (accS m l).2) (i := k - 1) (by omega)
          obtain ⟨hE0, hA1⟩ := hA.step hAsc hCon hxm
          have hrow := h15.row (accS_mem _ hxm)
          refine JC_rwGet (f := true) ((accS m l).2.getD (k - 1) dR) am hxm ?_; refine JC_region ?_; refine JL_m ?_; refine JL_m ?_; refine JL_m ?_; refine JL_idx (k - 1) sl22 rfl rfl (by omega) (by omega) (by first | exact Reads.view am | (exact Reads.own 1 rfl) | (exact Reads.own 3 rfl)) (by rw [rws_length]; omega) ?_; refine JL_loadE ty23 rfl (by first | exact Reads.view am | (exact Reads.own 1 rfl) | (exact Reads.own 3 rfl)) (rws_get (by omega)) ?_; refine JL_rot 2 ?_; refine JL_norm _ [box _ _ [_, _, _], osl _ _ _ _ _ _, box _ _ [_, _, _], osl _ _ _ _ _ _] [_, _, _, _, _, _, _, _, _, _, _] rfl rfl rfl ?_; refine JL_callO (AsksO.cons am (AsksO.cons am (AsksO.cons am AsksO.nil))) (tred_con hhi hF hA.ord.tn (by omega) (by omega)) rfl ca10 ⟨rfl, rfl, rfl⟩ ?_; rintro _ _ _ ⟨e55, a55, l55, ar55, cr55, rfl, rfl, rfl, hf55, hl55, hx55⟩; refine JL_rot 2 ?_; refine JL_norm _ [box _ _ [_, _, _], osl _ _ _ _ _ _, box _ _ [_, _, _], osl _ _ _ _ _ _] [_, _, _, _, _, _, _, _, _, _, _, _, _] rfl rfl rfl ?_; refine JL_neq rfl rfl ?_; refine JL_split (fun h56 => ?_) (fun h56 => ?_)
          · exact absurd (hx55.he.trans hE0) h56
          · refine JL_du 89 [box _ _ [_, _, _], osl _ _ _ _ _ _, box _ _ [_, _, _], osl _ _ _ _ _ _] [_, _, _, _, _, _, _, _, _, _, _, _, _] ?_; refine JC_false rfl ?_; refine JC_skip ?_; refine JE_block_normal ?_; refine JE_then ?_; refine JC_region ?_; refine JL_m ?_; refine JL_sub_to rfl rfl (IntWalk.i64_in _ (by omega)) ?_; rw [show ((k : Int) - 1 - 1 : Int) = ((k - 1 : Nat) : Int) - 1 from by omega]; refine JL_assign rfl ?_; refine JL_nu 89 [box _ _ [_, _, _], osl _ _ _ _ _ _, box _ _ [_, _, _], osl _ _ _ _ _ _] [_, _, _, _, _, _, _, _, _, _, _, _, _] ?_; refine JE_nextS (k - 1, a55, l55, ar55, cr55, S ++ [nr ((accS m l).2.getD (k - 1) dR).L]) (by kernel_rfl) ?_ ?_ (by kernel_rfl) ?_
            · exact ⟨by omega, hf55, by rw [hx55.ht]; exact hA1, by omega, fun j hj hj2 => by
              by_cases e : j = k - 1
              · rw [e]; exact List.mem_append_right _ List.mem_cons_self
              · exact List.mem_append_left _ (hS j (by omega) hj2)⟩
            · first | omega | (dsimp only; omega)
            · exact subset_app (subset_cons am (subset_cons am subset_nil)) (ssS (ssS (ssS (ssS (ssS ss0)))))
        · refine JL_du 89 [box _ _ [_, _, _], osl _ _ _ _ _ _, box _ _ [_, _, _], osl _ _ _ _ _ _] [_, _, _, _, _, _, _, _, _, _] ?_; refine JC_false rfl ?_; refine JC_exit ?_; refine JE_then_exit ?_; refine JE_nextS_exit ?_; refine JE_block_exit ?_; refine JE_then ?_; refine JC_seq ?_; refine JC_sr ?_; refine JL_assign rfl ?_; refine JL_du 89 [box _ _ [_, _, _], osl _ _ _ _ _ _, box _ _ [_, _, _], osl _ _ _ _ _ _] [_, _, _, _, _, _, _, _, _, _] ?_; refine JC_block ?_
          refine JC_loopS ((Nat) × (AT) × (List Rw) × (Option Addr) × (Nat) × (List (List Nat))) (fun (i, a, R, ar, cr, S) => i ≤ (accS m l).2.length ∧ Fit a ∧ AnyI m (accS m l).2 l0 (er a) S ∧ R.length ≤ (accS m l).2.length + i ∧ ∀ x ∈ (accS m l).2, nr x.L ∈ S) (fun (i, a, R, ar, cr, S) => (accS m l).2.length - i) (fun u (i, a, R, ar, cr, S) => [none, none, none, none, some (u 4), none, none, none, none, none, some (.int .i64 (i : Nat)), none, none, none, none, none, none, none, none, none, none, none, none, none, none, none, none, none, none, none, none, none, none, none, none, none, none, none, none, none, none, none, none, none, none, none, none, none, none, none, none, none, none, none, none, none, none, some (u 57), some (u 58), some (u 59), some (u 60), some (u 61), some (u 62), some (u 63), some (u 64), some (u 65), some (u 66), some (u 67), some (u 68), some (u 69), none, none, none, none, none, none, none, none, none, none, none, none, none, none, none, none, none, none, none]) (fun (i, a, R, ar, cr, S) => [none, none, some (box b27 50 [.int .i64 (m : Nat), ptr a, .slice ar R.length cr]), some (osl ar R.length cr 23 1 (rws R))]) (fun (i, a, R, ar, cr, S) => [(true, vA a), (true, vRws R)]) (0, a, R, ar, cr, S) (by kernel_rfl) ?_ (by kernel_rfl) ?_ ?_
          · exact ⟨Nat.zero_le _, hF, hA, by omega, fun x hx => by
            obtain ⟨j, hj, rfl⟩ := List.mem_iff_getElem.1 hx
            have := hS j (by omega) hj
            rwa [List.getD_eq_getElem?_getD, List.getElem?_eq_getElem hj] at this⟩
          · exact (subset_cons am (subset_cons am subset_nil))
          intro u i hC; obtain ⟨i, a, R, ar, cr, S⟩ := i; obtain ⟨hk, hF, hA, hR, hS⟩ := hC; refine JC_nm 89 [box _ _ [_, _, _], osl _ _ _ _ _ _, box _ _ [_, _, _], osl _ _ _ _ _ _] [_, _, _, _, _, _, _, _, _, _, _, _] ?_; refine JC_seq ?_; refine JC_sr ?_; refine JL_m ?_; refine JL_m ?_; refine JL_len sl22 rfl ?_; refine JL_lss rfl rfl ?_; refine JL_split (fun h60 => ?_) (fun h60 => ?_)
          · refine JL_du 89 [box _ _ [_, _, _], osl _ _ _ _ _ _, box _ _ [_, _, _], osl _ _ _ _ _ _] [_, _, _, _, _, _, _, _, _, _, _, _] ?_; refine JC_true rfl ?_; refine JC_skip ?_; refine JE_then ?_; refine JC_seq ?_; refine JC_block ?_; refine JC_seq ?_
            have hxm := rw_mem (l := (accS m l).2) (i := i) (by omega)
            obtain ⟨hE0, hA1⟩ := hA.step hAsc hCon hxm
            have hrow := h15.row (accS_mem _ hxm)
            refine JC_rwGet (f := true) ((accS m l).2.getD (i) dR) am hxm ?_; refine JC_region ?_; refine JL_m ?_; refine JL_m ?_; refine JL_m ?_; refine JL_idx (i) sl22 rfl rfl (by omega) (by omega) (by first | exact Reads.view am | (exact Reads.own 1 rfl) | (exact Reads.own 3 rfl)) (by rw [rws_length]; omega) ?_; refine JL_loadE ty23 rfl (by first | exact Reads.view am | (exact Reads.own 1 rfl) | (exact Reads.own 3 rfl)) (rws_get (by omega)) ?_; refine JL_rot 2 ?_; refine JL_norm _ [box _ _ [_, _, _], osl _ _ _ _ _ _, box _ _ [_, _, _], osl _ _ _ _ _ _] [_, _, _, _, _, _, _, _, _, _, _, _, _] rfl rfl rfl ?_; refine JL_callO (AsksO.cons am (AsksO.cons am (AsksO.cons am AsksO.nil))) (tred_con hhi hF hA.ord.tn (by omega) (by omega)) rfl ca10 ⟨rfl, rfl, rfl⟩ ?_; rintro _ _ _ ⟨e68, a68, l68, ar68, cr68, rfl, rfl, rfl, hf68, hl68, hx68⟩; refine JL_rot 2 ?_; refine JL_norm _ [box _ _ [_, _, _], osl _ _ _ _ _ _, box _ _ [_, _, _], osl _ _ _ _ _ _] [_, _, _, _, _, _, _, _, _, _, _, _, _, _, _] rfl rfl rfl ?_; refine JL_neq rfl rfl ?_; refine JL_split (fun h69 => ?_) (fun h69 => ?_)
            · exact absurd (hx68.he.trans hE0) h69
            · refine JL_du 89 [box _ _ [_, _, _], osl _ _ _ _ _ _, box _ _ [_, _, _], osl _ _ _ _ _ _] [_, _, _, _, _, _, _, _, _, _, _, _, _, _, _] ?_; refine JC_false rfl ?_; refine JC_skip ?_; refine JE_block_normal ?_; refine JE_then ?_; refine JC_region ?_; refine JL_m ?_; refine JL_add_to rfl rfl (IntWalk.i64_in _ (by omega)) ?_; refine JL_assign rfl ?_; refine JL_nu 89 [box _ _ [_, _, _], osl _ _ _ _ _ _, box _ _ [_, _, _], osl _ _ _ _ _ _] [_, _, _, _, _, _, _, _, _, _, _, _, _, _, _] ?_; refine JE_nextS (i + 1, a68, l68, ar68, cr68, S ++ [nr ((accS m l).2.getD i dR).L]) (by kernel_rfl) ?_ ?_ (by kernel_rfl) ?_
              · exact ⟨by omega, hf68, by rw [hx68.ht]; exact hA1, by omega, fun x hx => List.mem_append_left _ (hS x hx)⟩
              · first | omega | (dsimp only; omega)
              · exact subset_app (subset_cons am (subset_cons am subset_nil)) (ssS (ssS (ssS (ssS (ssS ss0)))))
          · refine JL_du 89 [box _ _ [_, _, _], osl _ _ _ _ _ _, box _ _ [_, _, _], osl _ _ _ _ _ _] [_, _, _, _, _, _, _, _, _, _, _, _] ?_; refine JC_false rfl ?_; refine JC_exit ?_; refine JE_then_exit ?_; refine JE_nextS_exit ?_; refine JE_block_exit ?_; refine JE_then ?_; refine JC_seq ?_; obtain ⟨hx1, hx2, hx3⟩ := any_end hlo hA hS dd
            have hac : (accS m l).1 = er a22 := by rw [accS_bT, ← hT22]
            rw [hac] at hx1 hx2 hx3
            have hcl := cnt_limbs hN22.ok (by rw [hN22.lvs_len]; omega)
            rw [hN22.lvs_len] at hcl
            have hfl := fst_len hN22.ok hN22.nodup
            rw [hN22.lvs_len] at hfl
            have hzl := zs_length (fstT (er a22))
            refine JC_region ?_; refine JL_m ?_; refine JL_callF' (Asks.cons (by first | exact holds_of_mem am | (exact holds_of_box 0 rfl) | (exact holds_of_own 1 rfl) | (exact holds_of_box 2 rfl) | (exact holds_of_own 3 rfl)) (Asks.cons (by first | exact holds_of_mem am | (exact holds_of_box 0 rfl) | (exact holds_of_own 1 rfl) | (exact holds_of_box 2 rfl) | (exact holds_of_own 3 rfl)) Asks.nil)) (ttext_con hf22 hN22 hhi) rfl ca9 ⟨rfl, rfl⟩ ?_; rintro _ _ ⟨rfl, rfl⟩; refine JL_m ?_; refine JL_callF' (Asks.cons (by first | exact holds_of_mem am | (exact holds_of_box 0 rfl) | (exact holds_of_own 1 rfl) | (exact holds_of_box 2 rfl) | (exact holds_of_own 3 rfl)) (Asks.cons (by first | exact holds_of_mem am | (exact holds_of_box 0 rfl) | (exact holds_of_own 1 rfl) | (exact holds_of_box 2 rfl) | (exact holds_of_own 3 rfl)) Asks.nil)) (ttext_con hF hA.ord.tn hhi) rfl ca9 ⟨rfl, rfl⟩ ?_; rintro _ _ ⟨rfl, rfl⟩; rw [show tx a = tx a22 from hx1.symm]; refine JL_eqlS rfl rfl ?_; refine JL_splitV (fun h74 => ?_) (fun h74 => ?_)
            · refine JL_m ?_; refine JL_gy ?_; refine JL_m ?_; refine JL_gy ?_; refine JL_callF' (Asks.cons (by first | exact holds_of_mem am | (exact holds_of_box 0 rfl) | (exact holds_of_own 1 rfl) | (exact holds_of_box 2 rfl) | (exact holds_of_own 3 rfl)) (Asks.cons (by first | exact holds_of_mem am | (exact holds_of_box 0 rfl) | (exact holds_of_own 1 rfl) | (exact holds_of_box 2 rfl) | (exact holds_of_own 3 rfl)) Asks.nil)) (tcount_con hf22 hN22 hhi) rfl ca14 ⟨rfl, rfl⟩ ?_; rintro _ _ ⟨ad77, cap77, rfl, hk77, hm77, rfl⟩; refine JL_gy ?_; refine JL_m ?_; refine JL_gy ?_; refine JL_callF' (Asks.cons (by first | exact holds_of_mem am | (exact holds_of_box 0 rfl) | (exact holds_of_own 1 rfl) | (exact holds_of_box 2 rfl) | (exact holds_of_own 3 rfl)) (Asks.cons (by first | exact holds_of_mem am | (exact holds_of_box 0 rfl) | (exact holds_of_own 1 rfl) | (exact holds_of_box 2 rfl) | (exact holds_of_own 3 rfl)) Asks.nil)) (tcount_con hF hA.ord.tn hhi) rfl ca14 ⟨rfl, rfl⟩ ?_; rintro _ _ ⟨ad79, cap79, rfl, hk79, hm79, rfl⟩; rw [← hx2]; refine JL_gy ?_
              refine JL_callF' (Asks.cons (by first | exact holds_of_mem am | (exact holds_of_own 1 rfl) | (exact holds_of_own 3 rfl)) (Asks.cons (by first | exact holds_of_mem am | (exact holds_of_own 1 rfl) | (exact holds_of_own 3 rfl)) Asks.nil)) (bnat_con (U32.limbsOf _) (by omega)) rfl ca13 ⟨rfl, rfl, rfl⟩ ?_; rintro _ _ ⟨rfl, rfl⟩; refine JL_pick_t rfl rfl ?_; refine JL_m ?_; refine JL_gy ?_; refine JL_m ?_; refine JL_gy ?_; refine JL_callF' (Asks.cons (by first | exact holds_of_mem am | (exact holds_of_box 0 rfl) | (exact holds_of_own 1 rfl) | (exact holds_of_box 2 rfl) | (exact holds_of_own 3 rfl)) (Asks.cons (by first | exact holds_of_mem am | (exact holds_of_box 0 rfl) | (exact holds_of_own 1 rfl) | (exact holds_of_box 2 rfl) | (exact holds_of_own 3 rfl)) Asks.nil)) (tfirst_con hf22 hN22 hhi) rfl ca16 ⟨rfl, rfl⟩ ?_; rintro _ _ ⟨ad84, c84, rfl, hc84, rfl⟩; refine JL_gy ?_; refine JL_m ?_; refine JL_gy ?_
              refine JL_callF' (Asks.cons (by first | exact holds_of_mem am | (exact holds_of_box 0 rfl) | (exact holds_of_own 1 rfl) | (exact holds_of_box 2 rfl) | (exact holds_of_own 3 rfl)) (Asks.cons (by first | exact holds_of_mem am | (exact holds_of_box 0 rfl) | (exact holds_of_own 1 rfl) | (exact holds_of_box 2 rfl) | (exact holds_of_own 3 rfl)) Asks.nil)) (tfirst_con hF hA.ord.tn hhi) rfl ca16 ⟨rfl, rfl⟩ ?_; rintro _ _ ⟨ad86, c86, rfl, hc86, rfl⟩; rw [← hx3]; refine JL_gy ?_; refine JL_callF' (Asks.cons (by first | exact holds_of_mem am | (exact holds_of_own 1 rfl) | (exact holds_of_own 3 rfl)) (Asks.cons (by first | exact holds_of_mem am | (exact holds_of_own 1 rfl) | (exact holds_of_own 3 rfl)) Asks.nil)) (bints_con (by omega)) rfl ca15 ⟨rfl, rfl, rfl⟩ ?_; rintro _ _ ⟨rfl, rfl⟩; refine JL_pick_t rfl rfl ?_; refine JL_assign rfl ?_; refine JL_du 89 [box _ _ [_, _, _], osl _ _ _ _ _ _, box _ _ [_, _, _], osl _ _ _ _ _ _] [_, _, _, _, _, _, _, _, _, _, _, _, _, _, _, _] ?_; refine JC_ret ?_; refine JE_ret (vs := [_]) [] Tryd.results4 ⟨rfl, rfl⟩ ?_ ?_
              · exact ⟨rfl, rfl⟩
              · exact all_nil
            · exact absurd h74 (by simp)
    · refine JC_region ?_; refine JL_m ?_; refine JL_m ?_; refine JL_callF' (Asks.cons (holds_of_mem am) Asks.nil) (accN_con hn hc) rfl ca11 ⟨rfl, rfl, rfl⟩ ?_; rintro _ _ ⟨rfl, rfl⟩; refine JL_m ?_; refine JL_extract (v := .slice none 0 0) rfl rfl ?_; refine JL_extract (v := .pointer none) rfl rfl ?_; refine JL_assign rfl ?_; refine JL_assign rfl ?_; refine JL_du 89 [] [_, _] ?_; refine JC_sr ?_; refine JL_m ?_; refine JL_callF' Asks.nil (newX_con hn) rfl ca12 ⟨rfl, rfl⟩ ?_; rintro _ _ ⟨rfl, rfl⟩; refine JL_m ?_; refine JL_extract (v := .pointer none) rfl rfl ?_; refine JL_extract (v := .int .i64 2) rfl rfl ?_; refine JL_assign rfl ?_; refine JL_assign rfl ?_; refine JL_du 89 [] [_, _] ?_; refine JC_seq ?_; refine JC_sr ?_; refine JL_m ?_; refine JL_neq rfl rfl ?_; refine JL_split (fun h31 => ?_) (fun h31 => ?_)
      · refine JL_du 89 [] [_, _] ?_; refine JC_true rfl ?_; refine JC_sr ?_; refine JL_m ?_; refine JL_eqlPtr pt26 rfl rfl ?_; refine JL_splitV (fun h33 => ?_) (fun h33 => ?_)
        · refine JL_m ?_; refine JL_gy ?_; refine JL_m ?_; refine JL_gy ?_; refine JL_eqlPtr pt26 rfl rfl ?_; refine JL_splitV (fun h36 => ?_) (fun h36 => ?_)
          · refine JL_pick_t rfl rfl ?_; refine JL_m ?_; refine JL_gy ?_; refine JL_m ?_; refine JL_gy ?_; refine JL_len sl22 rfl ?_; refine JL_gy ?_; refine JL_eql rfl rfl ?_; rw [decide_eq_true (p := ((0 : Nat) : Int) = 0) rfl]; refine JL_pick_t rfl rfl ?_; refine JL_assign rfl ?_; refine JL_du 89 [] [_, _] ?_; refine JC_ret ?_; refine JE_then_ret ?_; refine JE_ret (vs := [_]) [] Tryd.results4 ⟨rfl, rfl⟩ ?_ ?_
            · exact ⟨rfl, rfl⟩
            · exact all_nil
          · exact absurd h36 (by decide)
        · exact absurd h33 (by decide)
      · exact absurd (by decide) h31
  · refine JL_gy ?_; refine JL_not rfl ?_; rw [Bool.not_false]; refine JL_pick_f rfl rfl ?_; refine JL_du 89 [] [_, _] ?_; refine JC_true rfl ?_; refine JC_sr ?_; refine JL_callF' Asks.nil (awake_con) rfl ca5 rfl ?_; rintro _ _ ⟨rfl, rfl⟩; refine JL_assign rfl ?_; refine JL_du 89 [] [_, _] ?_; refine JC_ret ?_; refine JE_then_ret ?_; refine JE_ret (vs := [_]) [] Tryd.results4 ⟨rfl, rfl⟩ ?_ ?_
    · exact ⟨rfl, rfl⟩
    · exact all_nil

theorem pqtreeAny_con {n : Int} (hm1 : -9223372036854775808 ≤ n) (hm2 : n ≤ 9223372036854775807) {ad : Option Addr} {c : Nat} {l : List Rw} (hc : l.length ≤ c ∧ c ≤ 9223372036854775807) : ConF Tryd.prog 4 [.int .i64 n, .slice ad l.length c] [vCells ad (rws l), vRws l] (fun v φo => v = .bool true ∧ φo = []) :=
  ConA.conF (pqtreeAny_conA hm1 hm2 hc) fun _ _ h => h.2

end Go.Fw.K
