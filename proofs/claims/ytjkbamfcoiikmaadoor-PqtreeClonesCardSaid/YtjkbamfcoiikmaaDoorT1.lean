/- Walks through functions of the given program: each meets its contract. (Printed by a program of this repo.) -/
import Derived.Test.YtjkbamfcoiikmaaDoorME
import Derived.Test.YtjkbamfcoiikmaaDoorProg
namespace Go.Fw.T1
open Go Go.RowKit Go.Proofs Go.Nat9 Go.Fw
attribute [local irreducible] JC JL JE
theorem ca10 : callable Tryd.prog 10 = true := by kernel_rfl
theorem ca5 : callable Tryd.prog 5 = true := by kernel_rfl
theorem ca6 : callable Tryd.prog 6 = true := by kernel_rfl
theorem ca7 : callable Tryd.prog 7 = true := by kernel_rfl
theorem ca8 : callable Tryd.prog 8 = true := by kernel_rfl
theorem ca9 : callable Tryd.prog 9 = true := by kernel_rfl
theorem pt26 : Tryd.prog.underlying 26 = some (.pointer (Tryd.prog.pointee 26)) := by kernel_rfl
theorem sl23 : slOf Tryd.prog 23 = some (3, 1, 8, [.int .i64 0]) := by kernel_rfl
end Go.Fw.T1
namespace Go.Fw.K
open Go Go.RowKit Go.Proofs Go.Nat9 Go.Fw Go.Fw.T1
attribute [local irreducible] JC JL JE

open Go.Fw.Pq
set_option maxHeartbeats 4000000 in
theorem pqtreeClones_conA {n : Int} (hm1 : -9223372036854775808 ≤ n) (hm2 : n ≤ 9223372036854775807) {ad : Option Addr} {c : Nat} {l : List Rw} (hc : l.length ≤ c ∧ c ≤ 9223372036854775807) {ad2 : Option Addr} {c2 : Nat} {L : List Int} :
    ConA Tryd.prog 3 [.int .i64 n, .slice ad l.length c, .slice ad2 L.length c2] [vCells ad (rws l), vRws l, vCells ad2 (i64s L)]
      (fun v φo => v = .bool true ∧ φo = []) := by
  have _ := hm1
  have _ := hm2
  refine ConA_of Tryd.func3 rfl 74 _ rfl rfl ?_; intro w0; refine JC_norm ⟨74, [], [_, _, _, _, _, _, _, _, _, _, _, _, _, _, _, _, _, _, _, _, _, _, _, _, _, _, _, _, _, _, _, _, _, _, _, _, _, _, _, _, _, _, _, _, _, _, _, _, _, _, _, _, _, _, _, _, _, _, _, _, _, _, _, _, _, _, _, _, _, _, _, _, _, _]⟩ [] [_, _, _] rfl rfl rfl ?_; refine JC_sr ?_; refine JL_assign rfl ?_; refine JL_du 74 [] [_, _, _] ?_; refine JC_seq ?_; refine JC_sr ?_; refine JL_callF' Asks.nil (awake_con) rfl ca5 rfl ?_; rintro _ _ ⟨rfl, rfl⟩; refine JL_not rfl ?_; rw [Bool.not_true]; refine JL_m ?_; refine JL_gy ?_; refine JL_m ?_; refine JL_gy ?_; refine JL_callF' (Asks.cons (holds_of_mem am) Asks.nil) (few_con hc) rfl ca6 ⟨rfl, rfl⟩ ?_; rintro _ _ ⟨rfl, rfl⟩; refine JL_split (fun h16 => ?_) (fun h16 => ?_)
  · refine JL_gy ?_; refine JL_not rfl ?_; rw [Bool.not_true]; refine JL_pick_f rfl rfl ?_; refine JL_m ?_; refine JL_gy ?_; refine JL_m ?_; refine JL_gy ?_; refine JL_len sl23 rfl ?_; refine JL_gy ?_; refine JL_gtr rfl rfl ?_; refine JL_split (fun h22 => ?_) (fun h22 => ?_)
    · refine JL_pick_f rfl rfl ?_; refine JL_du 74 [] [_, _, _] ?_; refine JC_true rfl ?_; refine JC_sr ?_; refine JL_callF' Asks.nil (awake_con) rfl ca5 rfl ?_; rintro _ _ ⟨rfl, rfl⟩; refine JL_assign rfl ?_; refine JL_du 74 [] [_, _, _] ?_; refine JC_ret ?_; refine JE_then_ret ?_; refine JE_ret (vs := [_]) [] Tryd.results3 ⟨rfl, rfl⟩ ?_ ?_
      · exact ⟨rfl, rfl⟩
      · exact all_nil
    · refine JL_pick_f rfl rfl ?_; refine JL_du 74 [] [_, _, _] ?_; refine JC_false rfl ?_; refine JC_skip ?_; refine JE_then ?_; refine JC_seq ?_
      rcases (by omega : (1 ≤ n ∧ n ≤ 16) ∨ (n < 1 ∨ 16 < n)) with hn | hn
      · obtain ⟨m, rfl⟩ : ∃ m : Nat, n = (m : Int) := ⟨n.toNat, by omega⟩
        have hlo : 1 ≤ m := by omega
        have hhi : m ≤ 16 := by omega
        refine JC_region ?_; refine JL_m ?_; refine JL_m ?_; refine JL_callO0 (AsksO.cons am (AsksO.cons am AsksO.nil)) (built_con hlo hhi hc h16) rfl ca7 ⟨rfl, rfl, rfl⟩ ?_; rintro _ _ _ ⟨b27, a27, l27, ar27, cr27, rfl, rfl, rfl, hf27, hT27, hl27⟩; refine JL_norm _ [box _ _ [_, _, _], osl _ _ _ _ _ _] [_, _, _, _, _] rfl rfl rfl ?_; refine JL_assign rfl ?_; refine JL_du 74 [box _ _ [_, _, _], osl _ _ _ _ _ _] [_, _, _, _, _] ?_; refine JC_sr ?_; refine JL_m ?_; refine JL_callOL (σ1 := []) (tclone_con (a := a27) (by omega)) rfl ca8 ⟨rfl, rfl⟩ ?_; rintro _ _ _ ⟨b29, ar29, cr29, rfl, rfl, rfl⟩; refine JL_norm _ [box _ _ [_, _, _], osl _ _ _ _ _ _, box _ _ [_, _, _], osl _ _ _ _ _ _] [_, _, _, _, _] rfl rfl rfl ?_; refine JL_assign rfl ?_; refine JL_du 74 [box _ _ [_, _, _], osl _ _ _ _ _ _, box _ _ [_, _, _], osl _ _ _ _ _ _] [_, _, _, _, _] ?_; refine JC_seq ?_; refine JC_sr ?_; refine JL_m ?_; refine JL_eqlPtr pt26 rfl rfl ?_; refine JL_splitV (fun h31 => ?_) (fun h31 => ?_)
        · exact absurd h31 Bool.false_ne_true
        · refine JL_m ?_; refine JL_gy ?_; refine JL_m ?_; refine JL_gy ?_; refine JL_eqlPtr pt26 rfl rfl ?_; refine JL_splitV (fun h34 => ?_) (fun h34 => ?_)
          · exact absurd h34 Bool.false_ne_true
          · refine JL_pick_f rfl rfl ?_; refine JL_du 74 [box _ _ [_, _, _], osl _ _ _ _ _ _, box _ _ [_, _, _], osl _ _ _ _ _ _] [_, _, _, _, _] ?_; refine JC_false rfl ?_; refine JC_skip ?_; refine JE_then ?_; refine JC_seq ?_
            have hN27 : Tn m (er a27) := by have h := bT_Tn (n := m) hlo (Rls l); rw [← hT27] at h; exact h
            refine JC_region ?_; refine JL_m ?_; refine JL_callF' (Asks.cons (by first | exact holds_of_mem am | (exact holds_of_box 0 rfl) | (exact holds_of_own 1 rfl) | (exact holds_of_box 2 rfl) | (exact holds_of_own 3 rfl)) (Asks.cons (by first | exact holds_of_mem am | (exact holds_of_box 0 rfl) | (exact holds_of_own 1 rfl) | (exact holds_of_box 2 rfl) | (exact holds_of_own 3 rfl)) Asks.nil)) (ttext_con hf27 hN27 hhi) rfl ca9 ⟨rfl, rfl⟩ ?_; rintro _ _ ⟨rfl, rfl⟩; refine JL_assign rfl ?_; refine JL_du 74 [box _ _ [_, _, _], osl _ _ _ _ _ _, box _ _ [_, _, _], osl _ _ _ _ _ _] [_, _, _, _, _] ?_; refine JC_sr ?_; refine JL_rot 2 ?_; refine JL_norm _ [box _ _ [_, _, _], osl _ _ _ _ _ _, box _ _ [_, _, _], osl _ _ _ _ _ _] [_, _, _, _, _] rfl rfl rfl ?_; refine JL_m ?_; refine JL_m ?_; refine JL_callO (AsksO.cons am (AsksO.cons am (AsksO.cons am AsksO.nil))) (tred_con hhi hf27 hN27 (by omega) (by omega)) rfl ca10 ⟨rfl, rfl, rfl⟩ ?_; rintro _ _ _ ⟨e46, a46, l46, ar46, cr46, rfl, rfl, rfl, hf46, hl46, hx46⟩; refine JL_rot 2 ?_
            refine JL_norm _ [box _ _ [_, _, _], osl _ _ _ _ _ _, box _ _ [_, _, _], osl _ _ _ _ _ _] [_, _, _, _, _, _, _] rfl rfl rfl ?_; refine JL_assign rfl ?_; refine JL_du 74 [box _ _ [_, _, _], osl _ _ _ _ _ _, box _ _ [_, _, _], osl _ _ _ _ _ _] [_, _, _, _, _, _, _] ?_; refine JC_seq ?_; refine JC_seq ?_
            have hN46 : Tn m (er a46) := by rw [hx46.ht]; exact hN27.redT L
            refine JC_region ?_; refine JL_m ?_; refine JL_callF' (Asks.cons (by first | exact holds_of_mem am | (exact holds_of_box 0 rfl) | (exact holds_of_own 1 rfl) | (exact holds_of_box 2 rfl) | (exact holds_of_own 3 rfl)) (Asks.cons (by first | exact holds_of_mem am | (exact holds_of_box 0 rfl) | (exact holds_of_own 1 rfl) | (exact holds_of_box 2 rfl) | (exact holds_of_own 3 rfl)) Asks.nil)) (ttext_con hf27 hN27 hhi) rfl ca9 ⟨rfl, rfl⟩ ?_; rintro _ _ ⟨rfl, rfl⟩; refine JL_m ?_; refine JL_neqS rfl rfl ?_; refine JL_splitV (fun h50 => ?_) (fun h50 => ?_)
            · exact absurd h50 (by simp)
            · refine JL_m ?_; refine JL_gy ?_; refine JL_m ?_; refine JL_gy ?_; refine JL_neq rfl rfl ?_; refine JL_split (fun h53 => ?_) (fun h53 => ?_)
              · refine JL_gy ?_; refine JL_m ?_; refine JL_gy ?_; refine JL_m ?_; refine JL_gy ?_; refine JL_callF' (Asks.cons (by first | exact holds_of_mem am | (exact holds_of_box 0 rfl) | (exact holds_of_own 1 rfl) | (exact holds_of_box 2 rfl) | (exact holds_of_own 3 rfl)) (Asks.cons (by first | exact holds_of_mem am | (exact holds_of_box 0 rfl) | (exact holds_of_own 1 rfl) | (exact holds_of_box 2 rfl) | (exact holds_of_own 3 rfl)) Asks.nil)) (ttext_con hf46 hN46 hhi) rfl ca9 ⟨rfl, rfl⟩ ?_; rintro _ _ ⟨rfl, rfl⟩; rw [show tx a46 = tx a27 from by show textT dd (er a46) = textT dd (er a27); rw [hx46.ht, redE_no (by rw [← hx46.he]; exact h53)]]; refine JL_gy ?_; refine JL_m ?_; refine JL_gy ?_; refine JL_neqS rfl rfl ?_; refine JL_splitV (fun h58 => ?_) (fun h58 => ?_)
                · exact absurd h58 (by simp)
                · refine JL_gy ?_; refine JL_pick_t rfl rfl ?_; refine JL_pick_f rfl rfl ?_; refine JL_du 74 [box _ _ [_, _, _], osl _ _ _ _ _ _, box _ _ [_, _, _], osl _ _ _ _ _ _] [_, _, _, _, _, _, _] ?_; refine JC_false rfl ?_; refine JC_skip ?_; refine JE_then ?_; refine JC_sr ?_; refine JL_m ?_; refine JL_m ?_; refine JL_callO (AsksO.cons am (AsksO.cons am (AsksO.cons am AsksO.nil))) (tred_con hhi hf27 hN27 (by omega) (by omega)) rfl ca10 ⟨rfl, rfl, rfl⟩ ?_; rintro _ _ _ ⟨e63, a63, l63, ar63, cr63, rfl, rfl, rfl, hf63, hl63, hx63⟩; refine JL_assign rfl ?_; refine JL_du 74 [box _ _ [_, _, _], osl _ _ _ _ _ _, box _ _ [_, _, _], osl _ _ _ _ _ _] [_, _, _, _, _, _, _, _, _] ?_; refine JC_seq ?_
                  have hN63 : Tn m (er a63) := by rw [hx63.ht]; exact hN27.redT L
                  refine JC_region ?_; refine JL_m ?_; refine JL_m ?_; refine JL_eql rfl rfl ?_; refine JL_split (fun h66 => ?_) (fun h66 => ?_)
                  · refine JL_m ?_; refine JL_gy ?_; refine JL_m ?_; refine JL_gy ?_; refine JL_callF' (Asks.cons (by first | exact holds_of_mem am | (exact holds_of_box 0 rfl) | (exact holds_of_own 1 rfl) | (exact holds_of_box 2 rfl) | (exact holds_of_own 3 rfl)) (Asks.cons (by first | exact holds_of_mem am | (exact holds_of_box 0 rfl) | (exact holds_of_own 1 rfl) | (exact holds_of_box 2 rfl) | (exact holds_of_own 3 rfl)) Asks.nil)) (ttext_con hf63 hN63 hhi) rfl ca9 ⟨rfl, rfl⟩ ?_; rintro _ _ ⟨rfl, rfl⟩; rw [show tx a63 = tx a46 from by show textT dd (er a63) = textT dd (er a46); rw [hx63.ht, hx46.ht]]; refine JL_gy ?_; refine JL_m ?_; refine JL_gy ?_; refine JL_callF' (Asks.cons (by first | exact holds_of_mem am | (exact holds_of_box 0 rfl) | (exact holds_of_own 1 rfl) | (exact holds_of_box 2 rfl) | (exact holds_of_own 3 rfl)) (Asks.cons (by first | exact holds_of_mem am | (exact holds_of_box 0 rfl) | (exact holds_of_own 1 rfl) | (exact holds_of_box 2 rfl) | (exact holds_of_own 3 rfl)) Asks.nil)) (ttext_con hf46 hN46 hhi) rfl ca9 ⟨rfl, rfl⟩ ?_; rintro _ _ ⟨rfl, rfl⟩; refine JL_gy ?_; refine JL_eqlS rfl rfl ?_; rw [beq_self_eq_true]; refine JL_pick_t rfl rfl ?_
                    refine JL_assign rfl ?_; refine JL_du 74 [box _ _ [_, _, _], osl _ _ _ _ _ _, box _ _ [_, _, _], osl _ _ _ _ _ _] [_, _, _, _, _, _, _, _, _] ?_; refine JC_ret ?_; refine JE_ret (vs := [_]) [] Tryd.results3 ⟨rfl, rfl⟩ ?_ ?_
                    · exact ⟨rfl, rfl⟩
                    · exact all_nil
                  · exact absurd (hx63.he.trans hx46.he.symm) h66
              · refine JL_gy ?_; refine JL_m ?_; refine JL_gn ?_; refine JL_gn ?_; refine JL_gn ?_; refine JL_gn ?_; refine JL_gy ?_; refine JL_pick_f rfl rfl ?_; refine JL_pick_f rfl rfl ?_; refine JL_du 74 [box _ _ [_, _, _], osl _ _ _ _ _ _, box _ _ [_, _, _], osl _ _ _ _ _ _] [_, _, _, _, _, _, _] ?_; refine JC_false rfl ?_; refine JC_skip ?_; refine JE_then ?_; refine JC_sr ?_; refine JL_m ?_; refine JL_m ?_; refine JL_callO (AsksO.cons am (AsksO.cons am (AsksO.cons am AsksO.nil))) (tred_con hhi hf27 hN27 (by omega) (by omega)) rfl ca10 ⟨rfl, rfl, rfl⟩ ?_; rintro _ _ _ ⟨e63, a63, l63, ar63, cr63, rfl, rfl, rfl, hf63, hl63, hx63⟩; refine JL_assign rfl ?_; refine JL_du 74 [box _ _ [_, _, _], osl _ _ _ _ _ _, box _ _ [_, _, _], osl _ _ _ _ _ _] [_, _, _, _, _, _, _, _, _] ?_; refine JC_seq ?_
                have hN63 : Tn m (er a63) := by rw [hx63.ht]; exact hN27.redT L
                refine JC_region ?_; refine JL_m ?_; refine JL_m ?_; refine JL_eql rfl rfl ?_; refine JL_split (fun h66 => ?_) (fun h66 => ?_)
                · refine JL_m ?_; refine JL_gy ?_; refine JL_m ?_; refine JL_gy ?_; refine JL_callF' (Asks.cons (by first | exact holds_of_mem am | (exact holds_of_box 0 rfl) | (exact holds_of_own 1 rfl) | (exact holds_of_box 2 rfl) | (exact holds_of_own 3 rfl)) (Asks.cons (by first | exact holds_of_mem am | (exact holds_of_box 0 rfl) | (exact holds_of_own 1 rfl) | (exact holds_of_box 2 rfl) | (exact holds_of_own 3 rfl)) Asks.nil)) (ttext_con hf63 hN63 hhi) rfl ca9 ⟨rfl, rfl⟩ ?_; rintro _ _ ⟨rfl, rfl⟩; rw [show tx a63 = tx a46 from by show textT dd (er a63) = textT dd (er a46); rw [hx63.ht, hx46.ht]]; refine JL_gy ?_; refine JL_m ?_; refine JL_gy ?_; refine JL_callF' (Asks.cons (by first | exact holds_of_mem am | (exact holds_of_box 0 rfl) | (exact holds_of_own 1 rfl) | (exact holds_of_box 2 rfl) | (exact holds_of_own 3 rfl)) (Asks.cons (by first | exact holds_of_mem am | (exact holds_of_box 0 rfl) | (exact holds_of_own 1 rfl) | (exact holds_of_box 2 rfl) | (exact holds_of_own 3 rfl)) Asks.nil)) (ttext_con hf46 hN46 hhi) rfl ca9 ⟨rfl, rfl⟩ ?_; rintro _ _ ⟨rfl, rfl⟩; refine JL_gy ?_; refine JL_eqlS rfl rfl ?_; rw [beq_self_eq_true]; refine JL_pick_t rfl rfl ?_
                  refine JL_assign rfl ?_; refine JL_du 74 [box _ _ [_, _, _], osl _ _ _ _ _ _, box _ _ [_, _, _], osl _ _ _ _ _ _] [_, _, _, _, _, _, _, _, _] ?_; refine JC_ret ?_; refine JE_ret (vs := [_]) [] Tryd.results3 ⟨rfl, rfl⟩ ?_ ?_
                  · exact ⟨rfl, rfl⟩
                  · exact all_nil
                · exact absurd (hx63.he.trans hx46.he.symm) h66
      · refine JC_region ?_; refine JL_m ?_; refine JL_m ?_; refine JL_callF' (Asks.cons (holds_of_mem am) Asks.nil) (builtN_con hn hc) rfl ca7 ⟨rfl, rfl, rfl⟩ ?_; rintro _ _ ⟨rfl, rfl⟩; refine JL_assign rfl ?_; refine JL_du 74 [] [_, _, _] ?_; refine JC_sr ?_; refine JL_m ?_; refine JL_callF' Asks.nil (tcloneN_con) rfl ca8 ⟨rfl, rfl⟩ ?_; rintro _ _ ⟨rfl, rfl⟩; refine JL_assign rfl ?_; refine JL_du 74 [] [_, _, _] ?_; refine JC_seq ?_; refine JC_sr ?_; refine JL_m ?_; refine JL_eqlPtr pt26 rfl rfl ?_; refine JL_splitV (fun h31 => ?_) (fun h31 => ?_)
        · refine JL_m ?_; refine JL_gn ?_; refine JL_gn ?_; refine JL_pick_t rfl rfl ?_; refine JL_du 74 [] [_, _, _] ?_; refine JC_true rfl ?_; refine JC_sr ?_; refine JL_m ?_; refine JL_eqlPtr pt26 rfl rfl ?_; refine JL_splitV (fun h37 => ?_) (fun h37 => ?_)
          · refine JL_m ?_; refine JL_gy ?_; refine JL_m ?_; refine JL_gy ?_; refine JL_eqlPtr pt26 rfl rfl ?_; refine JL_pick_t rfl rfl ?_; refine JL_assign rfl ?_; refine JL_du 74 [] [_, _, _] ?_; refine JC_ret ?_; refine JE_then_ret ?_; refine JE_ret (vs := [_]) [] Tryd.results3 ⟨rfl, rfl⟩ ?_ ?_
            · exact ⟨rfl, rfl⟩
            · exact all_nil
          · exact absurd h37 (by decide)
        · exact absurd h31 (by decide)
  · refine JL_gy ?_; refine JL_not rfl ?_; rw [Bool.not_false]; refine JL_pick_f rfl rfl ?_; refine JL_m ?_; refine JL_gn ?_; refine JL_gn ?_; refine JL_gn ?_; refine JL_pick_t rfl rfl ?_; refine JL_du 74 [] [_, _, _] ?_; refine JC_true rfl ?_; refine JC_sr ?_; refine JL_callF' Asks.nil (awake_con) rfl ca5 rfl ?_; rintro _ _ ⟨rfl, rfl⟩; refine JL_assign rfl ?_; refine JL_du 74 [] [_, _, _] ?_; refine JC_ret ?_; refine JE_then_ret ?_; refine JE_ret (vs := [_]) [] Tryd.results3 ⟨rfl, rfl⟩ ?_ ?_
    · exact ⟨rfl, rfl⟩
    · exact all_nil

theorem pqtreeClones_con {n : Int} (hm1 : -9223372036854775808 ≤ n) (hm2 : n ≤ 9223372036854775807) {ad : Option Addr} {c : Nat} {l : List Rw} (hc : l.length ≤ c ∧ c ≤ 9223372036854775807) {ad2 : Option Addr} {c2 : Nat} {L : List Int} : ConF Tryd.prog 3 [.int .i64 n, .slice ad l.length c, .slice ad2 L.length c2] [vCells ad (rws l), vRws l, vCells ad2 (i64s L)] (fun v φo => v = .bool true ∧ φo = []) :=
  ConA.conF (pqtreeClones_conA hm1 hm2 hc) fun _ _ h => h.2

end Go.Fw.K
