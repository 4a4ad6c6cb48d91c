/- Walks through functions of the given program: each meets its contract. (Printed by a program of this repo.) -/
import Derived.Test.YtjkbamfcoiikmaaGreatDoorM27
import Derived.Test.YtjkbamfcoiikmaaGreatDoorProg
namespace Go.Fw.M28
open Go Go.RowKit Go.Proofs Go.Nat9 Go.Fw
attribute [local irreducible] JC JL JE
theorem ca118 : callable Tryz.prog 118 = true := by kernel_rfl
theorem ca39 : callable Tryz.prog 39 = true := by kernel_rfl
theorem ca51 : callable Tryz.prog 51 = true := by kernel_rfl
theorem ca97 : callable Tryz.prog 97 = true := by kernel_rfl
theorem sl22 : slOf Tryz.prog 22 = some (32, 1, 24, [.slice none 0 0]) := by kernel_rfl
theorem sl32 : slOf Tryz.prog 32 = some (3, 1, 8, [.int .i64 0]) := by kernel_rfl
theorem ty3 : tyOf Tryz.prog 3 = some (false, 1) := by kernel_rfl
theorem ty32 : tyOf Tryz.prog 32 = some (false, 1) := by kernel_rfl
end Go.Fw.M28
namespace Go.Fw.K
open Go Go.RowKit Go.Proofs Go.Nat9 Go.Fw Go.Fw.M28
attribute [local irreducible] JC JL JE

open Go.Fw.Pq
set_option maxHeartbeats 8000000 in
set_option maxRecDepth 20000 in
theorem cwalk_con0 {b1 b2 n : Nat} (hn7 : n ≤ 7) {adw : Option Addr} {cw : Nat} {l : List Rw} (hlw : l.length ≤ 16) (hrw : ∀ r ∈ l, r.L.length ≤ 1000000) {adb adl : Option Addr} {cb cl f : Nat} {bg lf : List Int} {V : Value} (hbl : bg.length + f = n) (hll : lf.length = l.length) (hlb : (∀ i, i < (lf).length → -(((bg).length : Nat) : Int) ≤ (lf).getD i 0 ∧ (lf).getD i 0 ≤ 1000000))
    (IH : ∀ g, f = g + 1 → ∀ (adb5 adl5 : Option Addr) (cb5 cl5 : Nat) (bg5 lf5 : List Int) (V5 : Value), bg5.length + g = n → lf5.length = l.length → (∀ i, i < (lf5).length → -(((bg5).length : Nat) : Int) ≤ (lf5).getD i 0 ∧ (lf5).getD i 0 ≤ 1000000) → ConO Tryz.prog 118 [.int .i64 (n : Nat), .slice adw l.length cw, .slice adb5 (bg5).length cb5, .slice adl5 (lf5).length cl5, .func (.func 97) #[] #[.pointer (some ⟨b1, 0, none⟩), .pointer (some ⟨b2, 0, none⟩)]] [box b1 32 [V5], box b2 4 [.bool false]] [vCells adw (rws l), vRws l, vCells adb5 (i64s (bg5)), vCells adl5 (i64s (lf5))] (fun v rout φo => ∃ V' : Value, v = .bool (!fnd n l (g) (bg5) (lf5)) ∧ rout = [box b1 32 [V'], box b2 4 [.bool (fnd n l (g) (bg5) (lf5))]] ∧ φo = [])) :
    ConO Tryz.prog 118 [.int .i64 (n : Nat), .slice adw l.length cw, .slice adb (bg).length cb, .slice adl (lf).length cl, .func (.func 97) #[] #[.pointer (some ⟨b1, 0, none⟩), .pointer (some ⟨b2, 0, none⟩)]] [box b1 32 [V], box b2 4 [.bool false]] [vCells adw (rws l), vRws l, vCells adb (i64s (bg)), vCells adl (i64s (lf))]
      (fun v rout φo => ∃ V' : Value, v = .bool (!fnd n l (f) (bg) (lf)) ∧ rout = [box b1 32 [V'], box b2 4 [.bool (fnd n l (f) (bg) (lf))]] ∧ φo = []) := by
  refine ConO_of Tryz.func118 rfl 78 _ rfl rfl ?_; intro w0 p0 p1; refine JC_norm ⟨78, [], [_, _, _, _, _, _, _, _, _, _, _, _, _, _, _, _, _, _, _, _, _, _, _, _, _, _, _, _, _, _, _, _, _, _, _, _, _, _, _, _, _, _, _, _, _, _, _, _, _, _, _, _, _, _, _, _, _, _, _, _, _, _, _, _, _, _, _, _, _, _, _, _, _, _, _, _, _, _]⟩ [box _ _ [_], box _ _ [_]] [_, _, _, _, _, _] rfl rfl rfl ?_; refine JC_sr ?_; refine JL_assign rfl ?_; refine JL_du 78 [box _ _ [_], box _ _ [_]] [_, _, _, _, _, _] ?_; refine JC_seq ?_; refine JC_sr ?_; refine JL_m ?_; refine JL_len sl32 rfl ?_; refine JL_m ?_; refine JL_eql rfl rfl ?_; refine JL_split (fun h19 => ?_) (fun h19 => ?_)
  · refine JL_du 78 [box _ _ [_], box _ _ [_]] [_, _, _, _, _, _] ?_; refine JC_true rfl ?_; refine JC_sr ?_; refine JL_m ?_; refine JL_m ?_; refine JL_callOD (vs := [_]) (caps := [.pointer (some ⟨b1, 0, none⟩), .pointer (some ⟨b2, 0, none⟩)]) AsksO.nil (cl1_con) rfl ca97 ⟨rfl, rfl⟩ ?_; rintro _ _ _ ⟨rfl, rfl, rfl⟩; refine JL_norm _ [box _ _ [_], box _ _ [_]] [_, _, _, _, _, _] rfl rfl rfl ?_; refine JL_assign rfl ?_; refine JL_du 78 [box _ _ [_], box _ _ [_]] [_, _, _, _, _, _] ?_; refine JC_ret ?_; refine JE_then_ret ?_; obtain rfl : f = 0 := by omega
    refine JE_retO (vs := [_]) [] Tryz.results118 ⟨rfl, rfl⟩ ?_ ?_ am am
    · exact ⟨_, rfl, rfl, rfl⟩
    · exact all_nil
  · refine JL_du 78 [box _ _ [_], box _ _ [_]] [_, _, _, _, _, _] ?_; refine JC_false rfl ?_; refine JC_skip ?_; refine JE_then ?_; refine JC_seq ?_; refine JC_seq ?_; obtain ⟨g, rfl⟩ : ∃ g, f = g + 1 := ⟨f - 1, by omega⟩; refine JC_region ?_; refine JL_m ?_; refine JL_m ?_; refine JL_du 78 [box _ _ [_], box _ _ [_]] [_, _, _, _, _, _] ?_; refine JC_block ?_
    refine JC_loopS ((Nat) × (Value)) (fun (c, V2) => c ≤ n ∧ ∀ x, x < c → fndC n l g bg lf x = false) (fun (c, V2) => n - c) (fun u (c, V2) => [none, none, none, none, none, none, none, none, none, none, some (u 10), some (u 11), some (u 12), some (u 13), some (u 14), some (u 15), none, none, none, none, none, none, none, none, some (.int .i64 (c : Nat)), some (u 25), some (u 26), some (u 27), some (u 28), some (u 29), some (u 30), some (u 31), some (u 32), some (u 33), some (u 34), some (u 35), some (u 36), some (u 37), some (u 38), some (u 39), some (u 40), some (u 41), some (u 42), some (u 43), some (u 44), some (u 45), some (u 46), some (u 47), some (u 48), some (u 49), some (u 50), some (u 51), some (u 52), some (u 53), some (u 54), some (u 55), some (u 56), some (u 57), some (u 58), some (u 59), some (u 60), some (u 61), some (u 62), some (u 63), some (u 64), some (u 65), some (u 66), some (u 67), some (u 68), some (u 69), some (u 70), some (u 71), some (u 72), some (u 73), some (u 74), some (u 75), some (u 76), some (u 77)]) (fun (c, V2) => [some (box b1 32 [V2]), some (box b2 4 [.bool false])]) (fun (c, V2) => []) (0, V) (by kernel_rfl) ?_ (by kernel_rfl) ?_ ?_
    · exact ⟨Nat.zero_le _, fun x hx => absurd hx (Nat.not_lt_zero _)⟩
    · exact subset_nil
    intro u i hC; obtain ⟨c, V2⟩ := i; obtain ⟨hc, hx⟩ := hC; refine JC_nm 78 [box _ _ [_], box _ _ [_]] [_, _, _, _, _, _] ?_; refine JC_sr ?_; refine JL_lss rfl rfl ?_; refine JL_split (fun h25 => ?_) (fun h25 => ?_)
    · refine JL_du 78 [box _ _ [_], box _ _ [_]] [_, _, _, _, _, _] ?_; refine JC_seq ?_; refine JC_true rfl ?_; refine JC_skip ?_; refine JE_then ?_; refine JC_seq ?_; refine JC_block ?_; refine JC_sr ?_; refine JL_m ?_; refine JL_assign rfl ?_; refine JL_du 78 [box _ _ [_], box _ _ [_]] [_, _, _, _, _, _] ?_; refine JC_seq ?_; refine JC_sr ?_; refine JL_m ?_; refine JL_m ?_; refine JL_callF' (Asks.cons (holds_of_mem am) Asks.nil) (contV_con (by omega)) rfl ca51 ⟨rfl, rfl, rfl⟩ ?_; rintro _ _ ⟨rfl, rfl⟩; refine JL_split (fun h29 => ?_) (fun h29 => ?_)
      · refine JL_du 78 [box _ _ [_], box _ _ [_]] [_, _, _, _, _, _] ?_; refine JC_true rfl ?_; refine JC_exit ?_; refine JE_then_exit ?_; refine JE_block_exit ?_; refine JE_then ?_; refine JC_region ?_; refine JL_add_to rfl rfl (IntWalk.i64_in _ (by omega)) ?_; refine JL_m ?_; refine JL_nu 78 [box _ _ [_], box _ _ [_]] [_, _, _, _, _, _] ?_; refine JE_nextS (c + 1, V2) (by kernel_rfl) ?_ ?_ (by kernel_rfl) ?_
        · exact ⟨by omega, fun x h => by
          by_cases e : x = c
          · subst e; exact fndC_in h29
          · exact hx x (by omega)⟩
        · first | omega | (dsimp only; omega)
        · exact subset_app subset_nil ss0
      · refine JL_du 78 [box _ _ [_], box _ _ [_]] [_, _, _, _, _, _] ?_; refine JC_false rfl ?_; refine JC_skip ?_; refine JE_then ?_; refine JC_sr ?_; refine JL_m ?_; refine JL_callO0 (AsksO.cons am AsksO.nil) (cliO_con (by omega)) rfl ca39 ⟨rfl, rfl⟩ ?_; rintro _ _ _ ⟨ad31, c31, rfl, hc31, rfl, rfl⟩; refine JL_norm _ [box _ _ [_], box _ _ [_], osl _ _ _ _ _ _] [_, _, _, _, _, _] rfl rfl rfl ?_; refine JL_assign rfl ?_; refine JL_assign rfl ?_; refine JL_du 78 [box _ _ [_], box _ _ [_], osl _ _ _ _ _ _] [_, _, _, _, _, _] ?_; refine JC_seq ?_; refine JC_sr ?_; refine JL_m ?_; refine JL_len sl22 rfl ?_; refine JL_m ?_; refine JL_du 78 [box _ _ [_], box _ _ [_], osl _ _ _ _ _ _] [_, _, _, _, _, _] ?_; refine JC_block ?_
        refine JC_loopS ((Nat) × (List Int) × (Bool)) (fun (i, N, fb) => i ≤ l.length ∧ N = nxtP l c lf i ∧ (fb = true ↔ ∀ j, j < i → fitR l c lf j) ∧ N.length = lf.length) (fun (i, N, fb) => l.length - i) (fun u (i, N, fb) => [none, none, none, none, none, none, none, none, none, none, none, none, some (.slice ad31 lf.length c31), some (.bool fb), some (u 14), some (u 15), none, none, none, none, none, none, none, none, none, none, none, none, none, none, none, none, none, none, some (.int .i64 (i : Nat)), some (u 35), some (u 36), some (u 37), some (u 38), some (u 39), some (u 40), some (u 41), some (u 42), some (u 43), some (u 44), some (u 45), some (u 46), some (u 47), some (u 48), some (u 49), some (u 50), some (u 51), some (u 52), some (u 53), some (u 54), some (u 55), some (u 56), some (u 57), some (u 58), some (u 59), some (u 60), some (u 61), some (u 62), none, none, none, none, none, none, none, none, none, none, none, none, none, none, none]) (fun (i, N, fb) => [none, none, some (osl ad31 lf.length c31 3 1 (i64s (N)))]) (fun (i, N, fb) => []) (0, lf, true) (by kernel_rfl) ?_ (by kernel_rfl) ?_ ?_
        · exact ⟨Nat.zero_le _, rfl, ⟨fun _ j hj => absurd hj (Nat.not_lt_zero _), fun _ => rfl⟩, rfl⟩
        · exact subset_nil
        intro u i hC; obtain ⟨i, N, fb⟩ := i; obtain ⟨hi, hN, hfb, hNl⟩ := hC; refine JC_nm 78 [box _ _ [_], box _ _ [_], osl _ _ _ _ _ _] [_, _, _, _, _, _] ?_; refine JC_sr ?_; refine JL_lss rfl rfl ?_; refine JL_split (fun h35 => ?_) (fun h35 => ?_)
        · refine JL_du 78 [box _ _ [_], box _ _ [_], osl _ _ _ _ _ _] [_, _, _, _, _, _] ?_; refine JC_seq ?_; refine JC_true rfl ?_; refine JC_skip ?_; refine JE_then ?_; refine JC_seq ?_; refine JC_block ?_; refine JC_seq ?_
          have hkm := rw_mem (l := l) (i := i) (by omega)
          have hrl := hrw _ hkm
          have hNi := nxtP_hi l c lf i i (Nat.le_refl _)
          rw [← hN] at hNi
          have hbi := hlb i (by omega)
          refine JC_rwGet (f := true) (l.getD i dR) am hkm ?_; refine JC_region ?_; refine JL_m ?_; refine JL_idx i sl22 rfl rfl (by omega) (by omega) (by first | exact Reads.view am | (exact Reads.own 2 rfl)) (by rw [rws_length]; omega) ?_; refine JL_loadE ty32 rfl (by first | exact Reads.view am | (exact Reads.own 2 rfl)) (rws_get (by omega)) ?_; refine JL_assign rfl ?_; refine JL_assign rfl ?_; refine JL_du 78 [box _ _ [_], box _ _ [_], osl _ _ _ _ _ _] [_, _, _, _, _, _, _] ?_; refine JC_sr ?_; refine JL_m ?_; refine JL_m ?_; refine JL_callF' (Asks.cons (by first | exact holds_of_mem am | (exact holds_of_own 2 rfl)) Asks.nil) (contV_con (by omega)) rfl ca51 ⟨rfl, rfl, rfl⟩ ?_; rintro _ _ ⟨rfl, rfl⟩; refine JL_split (fun h41 => ?_) (fun h41 => ?_)
          · refine JL_du 78 [box _ _ [_], box _ _ [_], osl _ _ _ _ _ _] [_, _, _, _, _, _, _] ?_; refine JC_true rfl ?_; refine JC_region ?_; refine JL_m ?_; refine JL_m ?_; refine JL_idx i sl32 rfl rfl rfl (by omega) (Reads.own 2 rfl) (by first | (rw [u32s_length]; omega) | (rw [i64s_length]; omega)) ?_; refine JL_loadE ty3 rfl (Reads.own 2 rfl) (i64s_get (by omega)) ?_; refine JL_sub_to rfl rfl (IntWalk.i64_in _ (by omega)) ?_; refine JL_idx i sl32 rfl rfl rfl (by omega) (Reads.own 2 rfl) (by first | (rw [u32s_length]; omega) | (rw [i64s_length]; omega)) ?_; refine JL_storeI 2 ty3 rfl rfl rfl (by omega) ?_; refine JL_nu 78 [box _ _ [_], box _ _ [_], osl _ _ _ _ _ _] [_, _, _, _, _, _, _] ?_; refine JE_block_normal ?_; refine JE_then ?_; refine JC_region ?_; refine JL_add_to rfl rfl (IntWalk.i64_in _ (by omega)) ?_; refine JL_m ?_; refine JL_nu 78 [box _ _ [_], box _ _ [_], osl _ _ _ _ _ _] [_, _, _, _, _, _, _] ?_; refine JE_nextS (i + 1, N.set i (N.getD i 0 - 1), fb) (by kernel_rfl) ?_ ?_ (by kernel_rfl) ?_
            · exact ⟨by omega, by rw [nxtP, if_pos h41, ← hN, hNi], fit_step hfb (.inl h41), by rw [List.length_set, hNl]⟩
            · first | omega | (dsimp only; omega)
            · exact subset_app subset_nil (ssS ss0)
          · refine JL_du 78 [box _ _ [_], box _ _ [_], osl _ _ _ _ _ _] [_, _, _, _, _, _, _] ?_; refine JC_false rfl ?_; refine JC_sr ?_; refine JL_m ?_; refine JL_m ?_; refine JL_idx i sl32 rfl rfl rfl (by omega) (by first | exact Reads.view am | (exact Reads.own 2 rfl)) (by first | (rw [u32s_length]; omega) | (rw [i64s_length]; omega)) ?_; refine JL_loadE ty3 rfl (by first | exact Reads.view am | (exact Reads.own 2 rfl)) (i64s_get (by omega)) ?_; refine JL_gtr rfl rfl ?_; refine JL_split (fun h52 => ?_) (fun h52 => ?_)
            · refine JL_m ?_; refine JL_gy ?_; refine JL_m ?_; refine JL_gy ?_; refine JL_m ?_; refine JL_gy ?_; refine JL_idx i sl32 rfl rfl rfl (by omega) (by first | exact Reads.view am | (exact Reads.own 2 rfl)) (by first | (rw [u32s_length]; omega) | (rw [i64s_length]; omega)) ?_; refine JL_gy ?_; refine JL_loadE ty3 rfl (by first | exact Reads.view am | (exact Reads.own 2 rfl)) (i64s_get (by omega)) ?_; refine JL_gy ?_; refine JL_m ?_; refine JL_gy ?_; refine JL_len sl32 rfl ?_; refine JL_gy ?_; refine JL_lss rfl rfl ?_; refine JL_split (fun h60 => ?_) (fun h60 => ?_)
              · refine JL_pick_t rfl rfl ?_; refine JL_du 78 [box _ _ [_], box _ _ [_], osl _ _ _ _ _ _] [_, _, _, _, _, _, _] ?_; refine JC_true rfl ?_; refine JC_region ?_; refine JL_assign rfl ?_; refine JL_nu 78 [box _ _ [_], box _ _ [_], osl _ _ _ _ _ _] [_, _, _, _, _, _, _] ?_; refine JE_block_normal ?_; refine JE_then ?_; refine JC_region ?_; refine JL_add_to rfl rfl (IntWalk.i64_in _ (by omega)) ?_; refine JL_m ?_; refine JL_nu 78 [box _ _ [_], box _ _ [_], osl _ _ _ _ _ _] [_, _, _, _, _, _, _] ?_; refine JE_nextS (i + 1, N, false) (by kernel_rfl) ?_ ?_ (by kernel_rfl) ?_
                · exact ⟨by omega, by rw [nxtP, if_neg h41]; exact hN, fit_stop (fun e => e.elim h41 fun e => e (by omega)), hNl⟩
                · first | omega | (dsimp only; omega)
                · exact subset_app subset_nil (ssS ss0)
              · refine JL_pick_t rfl rfl ?_; refine JL_du 78 [box _ _ [_], box _ _ [_], osl _ _ _ _ _ _] [_, _, _, _, _, _, _] ?_; refine JC_false rfl ?_; refine JC_skip ?_; refine JE_block_normal ?_; refine JE_then ?_; refine JC_region ?_; refine JL_add_to rfl rfl (IntWalk.i64_in _ (by omega)) ?_; refine JL_m ?_; refine JL_nu 78 [box _ _ [_], box _ _ [_], osl _ _ _ _ _ _] [_, _, _, _, _, _, _] ?_; refine JE_nextS (i + 1, N, fb) (by kernel_rfl) ?_ ?_ (by kernel_rfl) ?_
                · exact ⟨by omega, by rw [nxtP, if_neg h41]; exact hN, fit_step hfb (.inr (by omega)), hNl⟩
                · first | omega | (dsimp only; omega)
                · exact subset_app subset_nil (ssS ss0)
            · refine JL_m ?_; refine JL_gn ?_; refine JL_gn ?_; refine JL_gn ?_; refine JL_gn ?_; refine JL_gn ?_; refine JL_gn ?_; refine JL_gn ?_; refine JL_pick_f rfl rfl ?_; refine JL_du 78 [box _ _ [_], box _ _ [_], osl _ _ _ _ _ _] [_, _, _, _, _, _, _] ?_; refine JC_false rfl ?_; refine JC_skip ?_; refine JE_block_normal ?_; refine JE_then ?_; refine JC_region ?_; refine JL_add_to rfl rfl (IntWalk.i64_in _ (by omega)) ?_; refine JL_m ?_; refine JL_nu 78 [box _ _ [_], box _ _ [_], osl _ _ _ _ _ _] [_, _, _, _, _, _, _] ?_; refine JE_nextS (i + 1, N, fb) (by kernel_rfl) ?_ ?_ (by kernel_rfl) ?_
              · exact ⟨by omega, by rw [nxtP, if_neg h41]; exact hN, fit_step hfb (.inr (by omega)), hNl⟩
              · first | omega | (dsimp only; omega)
              · exact subset_app subset_nil (ssS ss0)
        · refine JL_du 78 [box _ _ [_], box _ _ [_], osl _ _ _ _ _ _] [_, _, _, _, _, _] ?_; refine JC_seq ?_; refine JC_false rfl ?_; refine JC_exit ?_; refine JE_then_exit ?_; refine JE_nextS_exit ?_; refine JE_block_exit ?_; refine JE_then ?_; refine JC_seq ?_
          rcases fb with _ | _
          · refine JC_region ?_; refine JL_m ?_; refine JL_m ?_; refine JL_gn ?_; refine JL_gn ?_; refine JL_gn ?_; refine JL_gn ?_; refine JL_gn ?_; refine JL_gn ?_; refine JL_gn ?_; refine JL_gn ?_; refine JL_gn ?_; refine JL_gn ?_; refine JL_gn ?_; refine JL_pick_f rfl rfl ?_; refine JL_du 78 [box _ _ [_], box _ _ [_], osl _ _ _ _ _ _] [_, _, _, _, _, _] ?_; refine JC_false rfl ?_; refine JC_skip ?_; refine JE_block_normal ?_; refine JE_then ?_; refine JC_region ?_; refine JL_add_to rfl rfl (IntWalk.i64_in _ (by omega)) ?_; refine JL_m ?_; refine JL_nu 78 [box _ _ [_], box _ _ [_], osl _ _ _ _ _ _] [_, _, _, _, _, _] ?_; refine JE_dropAt 2 ?_; refine JE_norm _ [box _ _ [_], box _ _ [_]] [_, _, _, _, _, _] rfl rfl rfl ?_; refine JE_nextS (c + 1, V2) (by kernel_rfl) ?_ ?_ (by kernel_rfl) ?_
            · exact ⟨by omega, fun x h => by
              by_cases e : x = c
              · subst e; exact fndC_no (fun hfc => Bool.false_ne_true (hfb.2 fun j hj => hfc j (by omega)))
              · exact hx x (by omega)⟩
            · first | omega | (dsimp only; omega)
            · exact subset_app subset_nil ss0
          · obtain rfl : i = l.length := by omega
            have hfit : fitC l c lf := fun j hj => hfb.1 rfl j hj
            subst hN; refine JC_region ?_; refine JL_m ?_; refine JL_m ?_; refine JL_gy ?_; refine JL_m ?_; refine JL_gy ?_; refine JL_m ?_; refine JL_gy ?_; refine JL_m ?_; refine JL_gy ?_; refine JL_callO0 (AsksO.cons am AsksO.nil) (cliO_con (by omega)) rfl ca39 ⟨rfl, rfl⟩ ?_; rintro _ _ _ ⟨ad68, c68, rfl, hc68, rfl, rfl⟩; refine JL_norm _ [box _ _ [_], box _ _ [_], osl _ _ _ _ _ _, osl _ _ _ _ _ _] [_, _, _, _, _, _] rfl rfl rfl ?_; refine JL_gy ?_; refine JL_m ?_; refine JL_gy ?_; refine JL_build1 sl32 rfl rfl (fun g70 => ?_); refine JL_gy ?_; refine JL_appendI (L := bg) 3 4 sl32 rfl rfl rfl rfl (by omega) (by omega) (fun ad71 cap71 hc71 => ?_); refine JL_dropAt 4 ?_; refine JL_norm _ [box _ _ [_], box _ _ [_], osl _ _ _ _ _ _, osl _ _ _ _ _ _] [_, _, _, _, _, _] rfl rfl rfl ?_; rw [show bg.length + 1 = (bg ++ [(c : Int)]).length from (by rw [List.length_append]; rfl), show lf.length = (nxtL l c lf).length from (nxtP_len l c lf _).symm]; refine JL_give 3 rfl ?_; refine JL_norm _ [box _ _ [_], box _ _ [_], osl _ _ _ _ _ _] [_, _, _, _, _, _, _] rfl rfl rfl ?_; refine JL_gy ?_; refine JL_m ?_; refine JL_give 2 rfl ?_
            refine JL_norm _ [box _ _ [_], box _ _ [_]] [_, _, _, _, _, _, _, _] rfl rfl rfl ?_; refine JL_gy ?_; refine JL_m ?_; refine JL_gy ?_; refine JL_callO (AsksO.cons am (AsksO.cons am (AsksO.cons am (AsksO.cons am AsksO.nil)))) (IH g rfl ad71 ad31 cap71 c31 (bg ++ [(c : Int)]) (nxtL l c lf) V2 (by rw [List.length_append, List.length_singleton]; omega) (by rw [nxtP_len]; exact hll) (by rw [List.length_append, List.length_singleton]; exact nxt_bd hll hlb)) rfl ca118 ⟨rfl, rfl, rfl, rfl, rfl, rfl⟩ ?_; rintro _ _ _ ⟨V74, rfl, rfl, rfl⟩; refine JL_splitV (fun h74 => ?_) (fun h74 => ?_)
            · have hff : fnd n l g (bg ++ [(c : Int)]) (nxtL l c lf) = false := by simpa using h74
              rw [hff]; refine JL_gy ?_; refine JL_not rfl ?_; rw [Bool.not_true]; refine JL_pick_t rfl rfl ?_; refine JL_du 78 [box _ _ [_], box _ _ [_]] [_, _, _, _, _, _, _, _] ?_; refine JC_false rfl ?_; refine JC_skip ?_; refine JE_block_normal ?_; refine JE_then ?_; refine JC_region ?_; refine JL_add_to rfl rfl (IntWalk.i64_in _ (by omega)) ?_; refine JL_m ?_; refine JL_nu 78 [box _ _ [_], box _ _ [_]] [_, _, _, _, _, _, _, _] ?_; refine JE_nextS (c + 1, V74) (by kernel_rfl) ?_ ?_ (by kernel_rfl) ?_
              · exact ⟨by omega, fun x h => by
                by_cases e : x = c
                · subst e; rw [fndC_of h29 hfit]; exact hff
                · exact hx x (by omega)⟩
              · first | omega | (dsimp only; omega)
              · exact subset_app subset_nil (ssS (ssS ss0))
            · have hff : fnd n l g (bg ++ [(c : Int)]) (nxtL l c lf) = true := by simpa using h74
              rw [hff]; refine JL_gy ?_; refine JL_not rfl ?_; rw [Bool.not_false]; refine JL_pick_t rfl rfl ?_; refine JL_du 78 [box _ _ [_], box _ _ [_]] [_, _, _, _, _, _, _, _] ?_; refine JC_true rfl ?_; refine JC_sr ?_; refine JL_assign rfl ?_; refine JL_du 78 [box _ _ [_], box _ _ [_]] [_, _, _, _, _, _, _, _] ?_; refine JC_ret ?_; refine JE_block_ret ?_; refine JE_then_ret ?_; refine JE_nextS_ret ?_; refine JE_block_ret ?_; refine JE_then_ret ?_; refine JE_retO (vs := [_]) [] Tryz.results118 ⟨rfl, rfl⟩ ?_ ?_ am am
              · rw [fnd_some (c := c) (by omega) (by rw [fndC_of h29 hfit]; exact hff)]; exact ⟨V74, rfl, rfl, rfl⟩
              · exact all_nil
    · refine JL_du 78 [box _ _ [_], box _ _ [_]] [_, _, _, _, _, _] ?_; refine JC_seq ?_; refine JC_false rfl ?_; refine JC_exit ?_; refine JE_then_exit ?_; refine JE_nextS_exit ?_; refine JE_block_exit ?_; refine JE_then ?_; refine JC_sr ?_; refine JL_assign rfl ?_; refine JL_du 78 [box _ _ [_], box _ _ [_]] [_, _, _, _, _, _] ?_; refine JC_ret ?_; refine JE_retO (vs := [_]) [] Tryz.results118 ⟨rfl, rfl⟩ ?_ ?_ am am
      · rw [fnd_none (fun x h => hx x (by omega))]; exact ⟨V2, rfl, rfl, rfl⟩
      · exact all_nil

theorem cwalk_con {b1 b2 n : Nat} (hn7 : n ≤ 7) {adw : Option Addr} {cw : Nat} {l : List Rw} (hlw : l.length ≤ 16) (hrw : ∀ r ∈ l, r.L.length ≤ 1000000) : ∀ (f : Nat) (adb adl : Option Addr) (cb cl : Nat) (bg lf : List Int) (V : Value), bg.length + f = n → lf.length = l.length → (∀ i, i < (lf).length → -(((bg).length : Nat) : Int) ≤ (lf).getD i 0 ∧ (lf).getD i 0 ≤ 1000000) → ConO Tryz.prog 118 [.int .i64 (n : Nat), .slice adw l.length cw, .slice adb (bg).length cb, .slice adl (lf).length cl, .func (.func 97) #[] #[.pointer (some ⟨b1, 0, none⟩), .pointer (some ⟨b2, 0, none⟩)]] [box b1 32 [V], box b2 4 [.bool false]] [vCells adw (rws l), vRws l, vCells adb (i64s (bg)), vCells adl (i64s (lf))] (fun v rout φo => ∃ V' : Value, v = .bool (!fnd n l (f) (bg) (lf)) ∧ rout = [box b1 32 [V'], box b2 4 [.bool (fnd n l (f) (bg) (lf))]] ∧ φo = []) := by
  intro f
  induction f with
  | zero => exact fun adb adl cb cl bg lf V h1 h2 h3 => cwalk_con0 hn7 hlw hrw h1 h2 h3 fun g hg => absurd hg (by omega)
  | succ k ih =>
    intro adb adl cb cl bg lf V h1 h2 h3; exact cwalk_con0 hn7 hlw hrw h1 h2 h3 fun g hg => (show k = g by omega) ▸ ih

end Go.Fw.K
