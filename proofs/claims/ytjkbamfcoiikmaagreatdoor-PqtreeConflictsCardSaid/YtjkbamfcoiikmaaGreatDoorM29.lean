/- Walks through functions of the given program: each meets its contract. (Printed by a program of this repo.) -/
import Derived.Test.YtjkbamfcoiikmaaGreatDoorM28
import Derived.Test.YtjkbamfcoiikmaaGreatDoorProg
namespace Go.Fw.M29
open Go Go.RowKit Go.Proofs Go.Nat9 Go.Fw
attribute [local irreducible] JC JL JE
theorem ca118 : callable Tryz.prog 118 = true := by kernel_rfl
theorem ca58 : callable Tryz.prog 58 = true := by kernel_rfl
theorem ca95 : callable Tryz.prog 95 = true := by kernel_rfl
theorem ca96 : callable Tryz.prog 96 = true := by kernel_rfl
theorem sl22 : slOf Tryz.prog 22 = some (32, 1, 24, [.slice none 0 0]) := by kernel_rfl
theorem sl32 : slOf Tryz.prog 32 = some (3, 1, 8, [.int .i64 0]) := by kernel_rfl
theorem ty32 : tyOf Tryz.prog 32 = some (false, 1) := by kernel_rfl
theorem ty4 : tyOf Tryz.prog 4 = some (false, 1) := by kernel_rfl
theorem z32 : zeroOf Tryz.prog 32 = some [.slice none 0 0] := by kernel_rfl
theorem z4 : zeroOf Tryz.prog 4 = some [.bool false] := by kernel_rfl
end Go.Fw.M29
namespace Go.Fw.K
open Go Go.RowKit Go.Proofs Go.Nat9 Go.Fw Go.Fw.M29
attribute [local irreducible] JC JL JE

open Go.Fw.Pq
set_option maxHeartbeats 2000000 in
theorem cvis_con {b1 b2 n : Nat} (hn7 : n ≤ 7) {adw : Option Addr} {cw : Nat} {l : List Rw} (hlw : l.length ≤ 16) (hrw : ∀ r ∈ l, r.L.length ≤ 1000000) {V : Value} :
    ConO Tryz.prog 96 [.int .i64 (n : Nat), .slice adw l.length cw, .func (.func 97) #[] #[.pointer (some ⟨b1, 0, none⟩), .pointer (some ⟨b2, 0, none⟩)]] [box b1 32 [V], box b2 4 [.bool false]] [vCells adw (rws l), vRws l]
      (fun v rout φo => ∃ V' : Value, v = .tuple #[] ∧ rout = [box b1 32 [V'], box b2 4 [.bool (fnd n l n [] (lensL l))]] ∧ φo = []) := by
  have hll := lensL_len l
  refine ConO_of Tryz.func96 rfl 26 _ rfl rfl ?_; intro w0 p0 p1; refine JC_norm ⟨26, [], [_, _, _, _, _, _, _, _, _, _, _, _, _, _, _, _, _, _, _, _, _, _, _, _, _, _]⟩ [box _ _ [_], box _ _ [_]] [_, _, _, _] rfl rfl rfl ?_; refine JC_sr ?_; refine JL_assign rfl ?_; refine JL_du 26 [box _ _ [_], box _ _ [_]] [_, _, _, _] ?_; refine JC_seq ?_; refine JC_sr ?_; refine JL_m ?_; refine JL_len sl22 rfl ?_; refine JL_m ?_; refine JL_du 26 [box _ _ [_], box _ _ [_]] [_, _, _, _] ?_; refine JC_block ?_; refine JC_addNil 3 1 ?_; refine JC_norm ⟨26, [], [_, _, _, _, _, _, _, _, _, _, _, _, _, _, _, _, _, _, _, _, _, _, _, _, _, _]⟩ [box _ _ [_], box _ _ [_], osl _ _ _ _ _ _] [_, _, _, _] rfl rfl rfl ?_
  refine JC_loopS ((Nat) × (Option Addr) × (Nat) × (List Int)) (fun (k, ad6, c6, M) => k ≤ l.length ∧ M = (lensL l).take k ∧ M.length = k) (fun (k, ad6, c6, M) => l.length - k) (fun u (k, ad6, c6, M) => [none, none, none, none, none, none, some (.slice ad6 M.length c6), none, some (u 8), none, none, some (.int .i64 (k : Nat)), some (u 12), some (u 13), some (u 14), some (u 15), some (u 16), some (u 17), some (u 18), some (u 19), some (u 20), none, none, none, none, none]) (fun (k, ad6, c6, M) => [none, none, some (osl ad6 M.length c6 3 1 (i64s M))]) (fun (k, ad6, c6, M) => []) (0, none, 0, []) (by kernel_rfl) ?_ (by kernel_rfl) ?_ ?_
  · exact ⟨Nat.zero_le _, List.take_zero.symm, rfl⟩
  · exact subset_nil
  intro u i hC; obtain ⟨k, ad6, c6, M⟩ := i; obtain ⟨hk, hM, hMl⟩ := hC; refine JC_nm 26 [box _ _ [_], box _ _ [_], osl _ _ _ _ _ _] [_, _, _, _] ?_; refine JC_sr ?_; refine JL_lss rfl rfl ?_; refine JL_split (fun h12 => ?_) (fun h12 => ?_)
  · refine JL_du 26 [box _ _ [_], box _ _ [_], osl _ _ _ _ _ _] [_, _, _, _] ?_; refine JC_seq ?_; refine JC_true rfl ?_; refine JC_skip ?_; refine JE_then ?_; refine JC_seq ?_; refine JC_block ?_; refine JC_seq ?_
    have hkm := rw_mem (l := l) (i := k) (by omega)
    refine JC_rwGet (f := true) (l.getD k dR) am hkm ?_; refine JC_region ?_; refine JL_idx k sl22 rfl rfl (by omega) (by omega) (by first | exact Reads.view am | (exact Reads.own 2 rfl)) (by rw [rws_length]; omega) ?_; refine JL_loadE ty32 rfl (by first | exact Reads.view am | (exact Reads.own 2 rfl)) (rws_get (by omega)) ?_; refine JL_assign rfl ?_; refine JL_du 26 [box _ _ [_], box _ _ [_], osl _ _ _ _ _ _] [_, _, _, _, _] ?_; refine JC_region ?_; refine JL_m ?_; refine JL_m ?_; refine JL_len sl32 rfl ?_; refine JL_build1 sl32 rfl rfl (fun g18 => ?_); refine JL_appendI (L := M) 2 3 sl32 rfl rfl rfl rfl (by omega) (by omega) (fun ad19 cap19 hc19 => ?_); refine JL_dropAt 3 ?_; refine JL_norm _ [box _ _ [_], box _ _ [_], osl _ _ _ _ _ _] [_, _, _, _, _] rfl rfl rfl ?_; rw [show M.length + 1 = (M ++ [(((l.getD k dR).L.length : Nat) : Int)]).length from by rw [List.length_append]; rfl]; refine JL_assign rfl ?_; refine JL_nu 26 [box _ _ [_], box _ _ [_], osl _ _ _ _ _ _] [_, _, _, _, _] ?_; refine JE_block_normal ?_; refine JE_then ?_; refine JC_region ?_; refine JL_add_to rfl rfl (IntWalk.i64_in _ (by omega)) ?_; refine JL_m ?_
    refine JL_nu 26 [box _ _ [_], box _ _ [_], osl _ _ _ _ _ _] [_, _, _, _, _] ?_; refine JE_nextS (k + 1, ad19, cap19, M ++ [(((l.getD k dR).L.length : Nat) : Int)]) (by kernel_rfl) ?_ ?_ (by kernel_rfl) ?_
    · exact ⟨by omega, by rw [hM, lensL_take (by omega)], by rw [List.length_append, hMl]; rfl⟩
    · first | omega | (dsimp only; omega)
    · exact subset_app subset_nil (ssS ss0)
  · refine JL_du 26 [box _ _ [_], box _ _ [_], osl _ _ _ _ _ _] [_, _, _, _] ?_; refine JC_seq ?_; refine JC_false rfl ?_; refine JC_exit ?_; refine JE_then_exit ?_; refine JE_nextS_exit ?_; refine JE_block_exit ?_; refine JE_then ?_
    have hMk : M = lensL l := by rw [hM, List.take_of_length_le (by rw [lensL_len]; omega)]
    subst hMk; refine JC_addView (p := vCells none (i64s [])) (f := true) (fun _ _ j u hj => by simp [i64s] at hj) ?_; refine JC_give 2 rfl ?_; refine JC_norm ⟨26, [], [_, _, _, _, _, _, _, _, _, _, _, _, _, _, _, _, _, _, _, _, _, _, _, _, _, _]⟩ [box _ _ [_], box _ _ [_]] [_, _, _, _, _, _] rfl rfl rfl ?_; refine JC_region ?_; refine JL_m ?_; refine JL_m ?_; refine JL_m ?_; refine JL_m ?_; refine JL_callO (AsksO.cons am (AsksO.cons am (AsksO.cons am (AsksO.cons am AsksO.nil)))) (cwalk_con hn7 hlw hrw n none ad6 0 c6 [] (lensL l) V (Nat.zero_add _) hll (fun i hi => by have hb := hrw _ (rw_mem (l := l) (i := i) (by omega)); rw [lensL_get (by omega)]; exact ⟨by simp only [List.length_nil]; omega, by omega⟩)) rfl ca118 ⟨rfl, rfl, rfl, rfl, rfl, rfl⟩ ?_; rintro _ _ _ ⟨V25, rfl, rfl, rfl⟩; refine JL_nu 26 [box _ _ [_], box _ _ [_]] [_, _, _, _, _, _] ?_; refine JE_endO (vs := []) [] Tryz.results96 rfl ?_ ?_ am am
    · exact ⟨V25, rfl, rfl, rfl⟩
    · exact all_nil

set_option maxHeartbeats 1000000 in
theorem cfirst_con {n : Nat} (hn7 : n ≤ 7) {adw : Option Addr} {cw : Nat} {l : List Rw} (hlw : l.length ≤ 16) (hrw : ∀ r ∈ l, r.L.length ≤ 1000000) :
    ConA Tryz.prog 58 [.int .i64 (n : Nat), .slice adw l.length cw] [vCells adw (rws l), vRws l]
      (fun v φo => ∃ (x : Value) (e : Int), v = .tuple #[x, .int .i64 e] ∧ φo = [] ∧ (e = 0 ↔ posP n l)) := by
  refine ConA_of Tryz.func58 rfl 19 _ rfl rfl ?_; intro w0; refine JC_norm ⟨19, [], [_, _, _, _, _, _, _, _, _, _, _, _, _, _, _, _, _, _, _]⟩ [] [_, _] rfl rfl rfl ?_; refine JC_sr ?_; refine JL_assign rfl ?_; refine JL_assign rfl ?_; refine JL_du 19 [] [_, _] ?_; refine JC_seq ?_; refine JC_sr ?_; refine JL_m ?_; refine JL_m ?_; refine JL_callF' (Asks.cons (holds_of_mem am) (Asks.cons (holds_of_mem am) Asks.nil)) (cval_con hn7 hlw hrw) rfl ca95 ⟨rfl, rfl, rfl⟩ ?_; rintro _ _ ⟨rfl, rfl⟩; refine JL_split (fun h10 => ?_) (fun h10 => ?_)
  · refine JL_not rfl ?_; rw [Bool.not_true]; refine JL_du 19 [] [_, _] ?_; refine JC_false rfl ?_; refine JC_skip ?_; refine JE_then ?_; refine JC_sr ?_; refine JL_alloc z32 (fun b6 => ?_); refine JL_du 19 [box _ _ [_]] [_, _] ?_; refine JC_sr ?_; refine JL_alloc z4 (fun b7 => ?_); refine JL_store (vs := [_]) 1 ty4 rfl rfl rfl (AllOne.cons rfl AllOne.nil) rfl (Nat.le_of_ble_eq_true rfl) ?_; refine JL_du 19 [box _ _ [_], box _ _ [_]] [_, _] ?_; refine JC_sr ?_; refine JL_m ?_; refine JL_m ?_; refine JL_makeFunc (vs := [_, _]) ⟨rfl, rfl, rfl⟩ ?_; refine JL_callO (AsksO.cons am (AsksO.cons am AsksO.nil)) (cvis_con hn7 hlw hrw) rfl ca96 ⟨rfl, rfl, rfl, rfl⟩ ?_; rintro _ _ _ ⟨V15, rfl, rfl, rfl⟩; refine JL_du 19 [box _ _ [_], box _ _ [_]] [_, _] ?_; refine JC_seq ?_; refine JC_sr ?_; refine JL_load 1 ty4 rfl rfl rfl ?_; refine JL_not rfl ?_; refine JL_du 19 [box _ _ [_], box _ _ [_]] [_, _] ?_; refine JC_cond rfl (fun hb => ?_) (fun hb => ?_)
    · have h17 := hb
      refine JC_sr ?_; refine JL_assign rfl ?_; refine JL_assign rfl ?_; refine JL_du 19 [box _ _ [_], box _ _ [_]] [_, _] ?_; refine JC_ret ?_; refine JE_then_ret ?_; refine JE_ret (vs := [_, _]) [] Tryz.results58 ⟨rfl, rfl, rfl⟩ ?_ ?_
      · exact ⟨_, _, rfl, rfl, fun e => absurd e (by decide), fun e => by rw [e.2] at h17; cases h17⟩
      · exact all_nil
    · have h17 := hb
      refine JC_skip ?_; refine JE_then ?_; refine JC_sr ?_; refine JL_load 0 ty32 rfl rfl rfl ?_; refine JL_assign rfl ?_; refine JL_assign rfl ?_; refine JL_du 19 [box _ _ [_], box _ _ [_]] [_, _] ?_; refine JC_ret ?_; refine JE_ret (vs := [_, _]) [] Tryz.results58 ⟨rfl, rfl, rfl⟩ ?_ ?_
      · exact ⟨_, _, rfl, rfl, fun _ => ⟨h10, by simpa using h17⟩, fun _ => rfl⟩
      · exact all_nil
  · refine JL_not rfl ?_; rw [Bool.not_false]; refine JL_du 19 [] [_, _] ?_; refine JC_true rfl ?_; refine JC_sr ?_; refine JL_assign rfl ?_; refine JL_assign rfl ?_; refine JL_du 19 [] [_, _] ?_; refine JC_ret ?_; refine JE_then_ret ?_; refine JE_ret (vs := [_, _]) [] Tryz.results58 ⟨rfl, rfl, rfl⟩ ?_ ?_
    · exact ⟨_, _, rfl, rfl, fun e => absurd e (by decide), fun e => absurd e.1 h10⟩
    · exact all_nil

theorem cpos_con {n : Nat} (hn7 : n ≤ 7) {adw : Option Addr} {cw : Nat} {l : List Rw} (hlw : l.length ≤ 16) (hrw : ∀ r ∈ l, r.L.length ≤ 1000000) :
    ConA Tryz.prog 33 [.int .i64 (n : Nat), .slice adw l.length cw] [vCells adw (rws l), vRws l]
      (fun v φo => v = .bool (decide (posP n l)) ∧ φo = []) := by
  refine ConA_of Tryz.func33 rfl 15 _ rfl rfl ?_; intro w0; refine JC_norm ⟨15, [], [_, _, _, _, _, _, _, _, _, _, _, _, _, _, _]⟩ [] [_, _] rfl rfl rfl ?_; refine JC_sr ?_; refine JL_assign rfl ?_; refine JL_du 15 [] [_, _] ?_; refine JC_sr ?_; refine JL_m ?_; refine JL_m ?_; refine JL_callA' true (AsksA.cons (holdsA_of_mem am) (AsksA.cons (holdsA_of_mem am) AsksA.nil)) (cfirst_con hn7 hlw hrw) rfl ca58 ⟨rfl, rfl, rfl⟩ ?_; rintro _ _ ⟨x10, e10, rfl, rfl, he10⟩; refine JL_m ?_; refine JL_extract (v := x10) rfl rfl ?_; refine JL_extract (v := .int .i64 e10) rfl rfl ?_; refine JL_assign rfl ?_; refine JL_assign rfl ?_; refine JL_du 15 [] [_, _] ?_; refine JC_sr ?_; refine JL_m ?_; refine JL_eql rfl rfl ?_; rw [decide_eq_decide.2 he10]; refine JL_assign rfl ?_; refine JL_du 15 [] [_, _] ?_; refine JC_ret ?_; refine JE_ret (vs := [_]) [] Tryz.results33 ⟨rfl, rfl⟩ ?_ ?_
  · exact ⟨rfl, rfl⟩
  · exact all_nil

end Go.Fw.K
