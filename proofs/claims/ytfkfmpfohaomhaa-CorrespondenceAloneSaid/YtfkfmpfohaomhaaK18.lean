/- Walks through functions of the given program: each meets its contract. (Printed by a program of this repo.) -/
import Derived.Test.YtfkfmpfohaomhaaK17
import Derived.Test.YtfkfmpfohaomhaaCoGL
import Derived.Test.YtfkfmpfohaomhaaCoJ
import Derived.Test.YtfkfmpfohaomhaaProg
namespace Go.Fw.K18
open Go Go.RowKit Go.Proofs Go.Nat9 Go.Fw
attribute [local irreducible] JC JL JE
theorem ca23 : callable Try.prog 23 = true := by kernel_rfl
theorem ca34 : callable Try.prog 34 = true := by kernel_rfl
theorem ca41 : callable Try.prog 41 = true := by kernel_rfl
theorem fo89_0 : fOf Try.prog 89 0 = some 0 := by kernel_rfl
theorem mixed : Try.prog.follows .mixedOrders = true := by kernel_rfl
theorem sl22 : slOf Try.prog 22 = some (39, 7, 56, [.int .i64 0, .int .i64 0, .int .i64 0, .int .i64 0, .int .i64 0, .int .i64 0, .int .i64 0]) := by kernel_rfl
theorem sl25 : slOf Try.prog 25 = some (60, 2, 16, [.int .i64 0, .int .i64 0]) := by kernel_rfl
theorem sl33 : slOf Try.prog 33 = some (37, 2, 16, [.int .i64 0, .int .i64 0]) := by kernel_rfl
theorem sl41 : slOf Try.prog 41 = some (3, 1, 8, [.int .i64 0]) := by kernel_rfl
theorem sl76 : slOf Try.prog 76 = some (89, 3, 24, [.int .i64 0, .int .i64 0, .int .i64 0]) := by kernel_rfl
theorem ty3 : tyOf Try.prog 3 = some (false, 1) := by kernel_rfl
theorem ty37 : tyOf Try.prog 37 = some (true, 2) := by kernel_rfl
theorem ty39 : tyOf Try.prog 39 = some (true, 7) := by kernel_rfl
theorem ty60 : tyOf Try.prog 60 = some (true, 2) := by kernel_rfl
end Go.Fw.K18
namespace Go.Fw.K
open Go Go.RowKit Go.Proofs Go.Nat9 Go.Fw Go.Fw.K18
attribute [local irreducible] JC JL JE

theorem rcheck_con {ad1 ad2 : Option Addr} {c1 c2 : Nat} {a b : List Spc} (hna : a.length ≤ 1000000) (hnb : b.length ≤ 1000000) :
    ConF Try.prog 41 [.slice ad1 a.length c1, .slice ad2 b.length c2] [vCells ad1 (scells a), vCells ad2 (scells b)]
      (fun v φo => v = .int .i64 (errC a b) ∧ φo = []) := by
  refine ConF_of Try.func41 rfl 13 _ rfl rfl ?_; intro w0; refine JC_norm ⟨13, [], [_, _, _, _, _, _, _, _, _, _, _, _, _]⟩ [] [_, _] rfl rfl rfl ?_; refine JC_sr ?_; refine JL_assign rfl ?_; refine JL_du 13 [] [_, _] ?_; refine JC_seq ?_; refine JC_sr ?_; refine JL_m ?_; refine JL_callF' (Asks.cons (holds_of_mem am) Asks.nil) (bcheck_con (l := a) hna) rfl ca23 ⟨rfl, rfl⟩ ?_; rintro _ _ ⟨rfl, rfl⟩; refine JL_assign rfl ?_; refine JL_du 13 [] [_, _] ?_; refine JC_sr ?_; refine JL_m ?_; refine JL_neq rfl rfl ?_; refine JL_split (fun h9 => ?_) (fun h9 => ?_)
  · refine JL_du 13 [] [_, _] ?_; refine JC_true rfl ?_; refine JC_sr ?_; refine JL_m ?_; refine JL_assign rfl ?_; refine JL_du 13 [] [_, _] ?_; refine JC_ret ?_; refine JE_then_ret ?_; refine JE_ret (vs := [_]) [] Try.results41 ⟨rfl, rfl⟩ ?_ ?_
    · rw [show errC a b = errS a from if_pos h9]; exact ⟨rfl, rfl⟩
    · exact all_nil
  · refine JL_du 13 [] [_, _] ?_; refine JC_false rfl ?_; refine JC_skip ?_; refine JE_then ?_; refine JC_sr ?_; refine JL_m ?_; refine JL_callF' (Asks.cons (holds_of_mem am) Asks.nil) (bcheck_con (l := b) hnb) rfl ca23 ⟨rfl, rfl⟩ ?_; rintro _ _ ⟨rfl, rfl⟩; refine JL_assign rfl ?_; refine JL_du 13 [] [_, _] ?_; refine JC_ret ?_; refine JE_ret (vs := [_]) [] Try.results41 ⟨rfl, rfl⟩ ?_ ?_
    · rw [show errC a b = errS b from if_neg h9]; exact ⟨rfl, rfl⟩
    · exact all_nil

theorem rsided_con {ad1 ad2 : Option Addr} {c1 c2 : Nat} {a b : List Spc} (hna : a.length ≤ 1000000) (hnb : b.length ≤ 1000000) {side : Int} :
    ConF Try.prog 42 [.slice ad1 a.length c1, .slice ad2 b.length c2, .int .i64 side] [vCells ad1 (scells a), vCells ad2 (scells b)]
      (fun v φo => v = .int .i64 (errP a b side) ∧ φo = []) := by
  refine ConF_of Try.func42 rfl 20 _ rfl rfl ?_; intro w0; refine JC_norm ⟨20, [], [_, _, _, _, _, _, _, _, _, _, _, _, _, _, _, _, _, _, _, _]⟩ [] [_, _] rfl rfl rfl ?_; refine JC_sr ?_; refine JL_assign rfl ?_; refine JL_du 20 [] [_, _] ?_; refine JC_seq ?_; refine JC_sr ?_; refine JL_m ?_; refine JL_m ?_; refine JL_callF' (Asks.cons (holds_of_mem am) (Asks.cons (holds_of_mem am) Asks.nil)) (rcheck_con (a := a) (b := b) hna hnb) rfl ca41 ⟨rfl, rfl, rfl⟩ ?_; rintro _ _ ⟨rfl, rfl⟩; refine JL_assign rfl ?_; refine JL_du 20 [] [_, _] ?_; refine JC_sr ?_; refine JL_m ?_; refine JL_neq rfl rfl ?_; refine JL_split (fun h12 => ?_) (fun h12 => ?_)
  · refine JL_du 20 [] [_, _] ?_; refine JC_true rfl ?_; refine JC_sr ?_; refine JL_m ?_; refine JL_assign rfl ?_; refine JL_du 20 [] [_, _] ?_; refine JC_ret ?_; refine JE_then_ret ?_; refine JE_ret (vs := [_]) [] Try.results42 ⟨rfl, rfl⟩ ?_ ?_
    · rw [errP_c h12]; exact ⟨rfl, rfl⟩
    · exact all_nil
  · refine JL_du 20 [] [_, _] ?_; refine JC_false rfl ?_; refine JC_skip ?_; refine JE_then ?_; refine JC_seq ?_; refine JC_sr ?_; refine JL_m ?_; refine JL_neq rfl rfl ?_; refine JL_split (fun h15 => ?_) (fun h15 => ?_)
    · refine JL_m ?_; refine JL_gy ?_; refine JL_m ?_; refine JL_gy ?_; refine JL_neq rfl rfl ?_; refine JL_split (fun h18 => ?_) (fun h18 => ?_)
      · refine JL_pick_t rfl rfl ?_; refine JL_du 20 [] [_, _] ?_; refine JC_true rfl ?_; refine JC_sr ?_; refine JL_assign rfl ?_; refine JL_du 20 [] [_, _] ?_; refine JC_ret ?_; refine JE_then_ret ?_; refine JE_ret (vs := [_]) [] Try.results42 ⟨rfl, rfl⟩ ?_ ?_
        · rw [errP_s h12 ⟨h15, h18⟩]; exact ⟨rfl, rfl⟩
        · exact all_nil
      · refine JL_pick_t rfl rfl ?_; refine JL_du 20 [] [_, _] ?_; refine JC_false rfl ?_; refine JC_skip ?_; refine JE_then ?_; refine JC_sr ?_; refine JL_assign rfl ?_; refine JL_du 20 [] [_, _] ?_; refine JC_ret ?_; refine JE_ret (vs := [_]) [] Try.results42 ⟨rfl, rfl⟩ ?_ ?_
        · rw [errP_ok h12 (fun h => by first | exact h15 h.1 | exact h18 h.2)]; exact ⟨rfl, rfl⟩
        · exact all_nil
    · refine JL_m ?_; refine JL_gn ?_; refine JL_gn ?_; refine JL_pick_f rfl rfl ?_; refine JL_du 20 [] [_, _] ?_; refine JC_false rfl ?_; refine JC_skip ?_; refine JE_then ?_; refine JC_sr ?_; refine JL_assign rfl ?_; refine JL_du 20 [] [_, _] ?_; refine JC_ret ?_; refine JE_ret (vs := [_]) [] Try.results42 ⟨rfl, rfl⟩ ?_ ?_
      · rw [errP_ok h12 (fun h => by first | exact h15 h.1 | exact h18 h.2)]; exact ⟨rfl, rfl⟩
      · exact all_nil

set_option maxHeartbeats 1000000 in
theorem rcom_con {ad1 ad2 : Option Addr} {c1 c2 : Nat} {a b : List Spc} (hna : a.length ≤ 1000) (hnb : b.length ≤ 1000) :
    ConF Try.prog 17 [.slice ad1 a.length c1, .slice ad2 b.length c2] [vCells ad1 (scells a), vCells ad2 (scells b)]
      (fun v φo => ∃ (ad3 : Option Addr) (c3 : Nat), v = .tuple #[.slice ad3 (comS a b).length c3, .int .i64 (errC a b)] ∧ ((comS a b).length ≤ c3 ∧ c3 ≤ 9223372036854775807) ∧ φo = [vCells ad3 (i64s (comS a b))]) := by
  refine ConF_of Try.func17 rfl 34 _ rfl rfl ?_; intro w0; refine JC_norm ⟨34, [], [_, _, _, _, _, _, _, _, _, _, _, _, _, _, _, _, _, _, _, _, _, _, _, _, _, _, _, _, _, _, _, _, _, _]⟩ [] [_, _] rfl rfl rfl ?_; refine JC_sr ?_; refine JL_assign rfl ?_; refine JL_assign rfl ?_; refine JL_du 34 [] [_, _] ?_; refine JC_seq ?_; refine JC_sr ?_; refine JL_m ?_; refine JL_m ?_; refine JL_callF' (Asks.cons (holds_of_mem am) (Asks.cons (holds_of_mem am) Asks.nil)) (rcheck_con (a := a) (b := b) (by omega) (by omega)) rfl ca41 ⟨rfl, rfl, rfl⟩ ?_; rintro _ _ ⟨rfl, rfl⟩; refine JL_assign rfl ?_; refine JL_du 34 [] [_, _] ?_; refine JC_sr ?_; refine JL_m ?_; refine JL_neq rfl rfl ?_; refine JL_split (fun h14 => ?_) (fun h14 => ?_)
  · refine JL_du 34 [] [_, _] ?_; refine JC_true rfl ?_; refine JC_sr ?_; refine JL_m ?_; refine JL_assign rfl ?_; refine JL_assign rfl ?_; refine JL_du 34 [] [_, _] ?_; refine JC_ret ?_; refine JE_then_ret ?_; refine JE_addView (f := true) (p := vCells none (i64s [])) (fun _ _ => nilI) ?_; refine JE_ret (vs := [_, _]) [vCells none (i64s [])] Try.results17 ⟨rfl, rfl, rfl⟩ ?_ ?_
    · rw [comS_no h14]; exact ⟨none, 0, rfl, ⟨Nat.le_refl _, Nat.zero_le _⟩, rfl⟩
    · exact (all_cons am all_nil)
  · refine JL_du 34 [] [_, _] ?_; refine JC_false rfl ?_; refine JC_skip ?_; refine JE_then ?_; refine JC_sr ?_; refine JL_m ?_; refine JL_m ?_; refine JL_callF' (Asks.cons (holds_of_mem am) (Asks.cons (holds_of_mem am) Asks.nil)) (coup_con (a := a) (b := b) (side := 0) hna hnb) rfl ca34 ⟨rfl, rfl, rfl, rfl⟩ ?_; rintro _ _ ⟨ad18, c18, rfl, hc18, rfl⟩; refine JL_assign rfl ?_; refine JL_du 34 [] [_, _, _] ?_; refine JC_sr ?_; refine JL_assign rfl ?_; refine JL_du 34 [] [_, _, _] ?_; refine JC_seq ?_; refine JC_sr ?_; refine JL_assign rfl ?_; refine JL_du 34 [] [_, _, _] ?_; refine JC_block ?_
    have hcl := cpS_len (side := 0) (Classical.not_not.1 h14)
    refine JC_addNil 3 1 ?_; refine JC_norm ⟨34, [], [_, _, _, _, _, _, _, _, _, _, _, _, _, _, _, _, _, _, _, _, _, _, _, _, _, _, _, _, _, _, _, _, _, _]⟩ [osl _ _ _ _ _ _] [_, _, _] rfl rfl rfl ?_; refine JC_loopS ((Nat) × (Option Addr) × (Nat)) (fun (i, ad3, cap3) => i ≤ (cpS a b 0).length) (fun (i, ad3, cap3) => (cpS a b 0).length - i) (fun u (i, ad3, cap3) => [none, none, none, none, none, none, none, none, some (.slice ad3 i cap3), some (.int .i64 (i : Nat)), none, none, none, none, none, none, none, none, none, some (u 19), some (u 20), some (u 21), some (u 22), some (u 23), some (u 24), some (u 25), some (u 26), some (u 27), some (u 28), some (u 29), some (u 30), some (u 31), some (u 32), none]) (fun (i, ad3, cap3) => [some (osl ad3 i cap3 3 1 (i64s (((cpS a b 0).take i).map (fun c : Cpl => c.1))))]) (fun (i, ad3, cap3) => []) (0, none, 0) (by kernel_rfl) ?_ (by kernel_rfl) ?_ ?_
    · exact Nat.zero_le _
    · exact subset_nil
    intro u i hi; obtain ⟨i, ad3, cap3⟩ := i; refine JC_nm 34 [osl _ _ _ _ _ _] [_, _, _] ?_; refine JC_seq ?_; refine JC_sr ?_; refine JL_m ?_; refine JL_m ?_; refine JL_len sl76 rfl ?_; refine JL_lss rfl rfl ?_; refine JL_split (fun h22 => ?_) (fun h22 => ?_)
    · refine JL_du 34 [osl _ _ _ _ _ _] [_, _, _] ?_; refine JC_true rfl ?_; refine JC_skip ?_; refine JE_then ?_; refine JC_seq ?_; refine JC_block ?_; refine JC_region ?_; refine JL_m ?_; refine JL_m ?_; refine JL_m ?_; refine JL_indexAddr i sl76 rfl rfl rfl (by omega) (by first | exact Reads.view am | (exact Reads.own 0 rfl)) (by rw [ccl_len]; omega) ?_; refine JL_fieldAddrE fo89_0 rfl (by first | exact Reads.view am | (exact Reads.own 0 rfl)) (by rw [ccl_len]; omega) ?_; refine JL_loadE ty3 rfl (by first | exact Reads.view am | (exact Reads.own 0 rfl)) (ccl_one (by omega)).1 ?_; refine JL_build1 sl41 rfl rfl (fun g31 => ?_); refine JL_appendI (L := ((cpS a b 0).take i).map (fun c : Cpl => c.1)) 0 1 sl41 rfl rfl rfl rfl (by omega) (by omega) (fun ad32 cap32 hc32 => ?_); refine JL_dropAt 1 ?_; refine JL_norm _ [osl _ _ _ _ _ _] [_, _, _] rfl rfl rfl ?_; rw [← cpS_takeI i (by omega)]; refine JL_assign rfl ?_; refine JL_nu 34 [osl _ _ _ _ _ _] [_, _, _] ?_; refine JE_block_normal ?_; refine JE_then ?_; refine JC_region ?_; refine JL_m ?_; refine JL_add_to rfl rfl (IntWalk.i64_in _ (by omega)) ?_; refine JL_assign rfl ?_
      refine JL_nu 34 [osl _ _ _ _ _ _] [_, _, _] ?_; refine JE_nextS (i + 1, ad32, cap32) (by kernel_rfl) ?_ ?_ (by kernel_rfl) ?_
      · exact (by omega : i + 1 ≤ (cpS a b 0).length)
      · first | omega | (dsimp only; omega)
      · exact subset_app subset_nil ss0
    · refine JL_du 34 [osl _ _ _ _ _ _] [_, _, _] ?_; refine JC_false rfl ?_; refine JC_exit ?_; refine JE_then_exit ?_; refine JE_nextS_exit ?_; refine JE_block_exit ?_; refine JE_then ?_; refine JC_seq ?_
      have hie : i = (cpS a b 0).length := by omega
      subst hie; refine JC_ownCap 0 rfl (fun hcap => ?_); refine JC_region ?_; refine JL_m ?_; refine JL_assign rfl ?_; refine JL_assign rfl ?_; refine JL_du 34 [osl _ _ _ _ _ _] [_, _, _] ?_; refine JC_ret ?_
      have e0 := Classical.not_not.1 h14
      have e1 := cpS_ids (side := 0) e0
      have e2 : (cpS a b 0).length = (comS a b).length := by rw [← e1, List.length_map]
      refine JE_give 0 rfl ?_; refine JE_norm _ [] [_, _, _, _] rfl rfl rfl ?_; refine JE_ret (vs := [_, _]) [vCells ad3 (i64s (((cpS a b 0).take (cpS a b 0).length).map (fun c : Cpl => c.1)))] Try.results17 ⟨rfl, rfl, rfl⟩ ?_ ?_
      · rw [List.take_length, e1, e0, ← e2]; exact ⟨ad3, cap3, rfl, hcap, rfl⟩
      · exact (all_cons am all_nil)

theorem has_con {ad : Option Addr} {c : Nat} {L : List Int} {x : Int} (hln : L.length ≤ 1000000) :
    ConF Try.prog 24 [.slice ad L.length c, .int .i64 x] [vCells ad (i64s L)]
      (fun v φo => v = .bool (decide (x ∈ L)) ∧ φo = []) := by
  refine ConF_of Try.func24 rfl 18 _ rfl rfl ?_; intro w0; refine JC_norm ⟨18, [], [_, _, _, _, _, _, _, _, _, _, _, _, _, _, _, _, _, _]⟩ [] [_] rfl rfl rfl ?_; refine JC_sr ?_; refine JL_assign rfl ?_; refine JL_du 18 [] [_] ?_; refine JC_seq ?_; refine JC_sr ?_; refine JL_assign rfl ?_; refine JL_du 18 [] [_] ?_; refine JC_block ?_; refine JC_loopS ((Nat)) (fun (k : Nat) => k ≤ L.length ∧ ∀ j, j < k → L.getD j 0 ≠ x) (fun (k : Nat) => L.length - k) (fun u (k : Nat) => [none, none, none, none, some (u 4), some (.int .i64 (k : Nat)), some (u 6), some (u 7), some (u 8), some (u 9), some (u 10), some (u 11), some (u 12), some (u 13), some (u 14), some (u 15), some (u 16), some (u 17)]) (fun (k : Nat) => []) (fun (k : Nat) => []) (0) (by kernel_rfl) ?_ (by kernel_rfl) ?_ ?_
  · exact ⟨Nat.zero_le _, fun j hj => absurd hj (Nat.not_lt_zero j)⟩
  · exact subset_nil
  intro u k hC; obtain ⟨hk, hj⟩ := hC; refine JC_nm 18 [] [_] ?_; refine JC_seq ?_; refine JC_sr ?_; refine JL_m ?_; refine JL_m ?_; refine JL_len sl41 rfl ?_; refine JL_lss rfl rfl ?_; refine JL_split (fun h9 => ?_) (fun h9 => ?_)
  · refine JL_du 18 [] [_] ?_; refine JC_true rfl ?_; refine JC_skip ?_; refine JE_then ?_; refine JC_seq ?_; refine JC_block ?_; refine JC_sr ?_; refine JL_m ?_; refine JL_m ?_; refine JL_idx k sl41 rfl rfl rfl (by omega) (by first | exact Reads.view am) (by first | (rw [u32s_length]; omega) | (rw [i64s_length]; omega)) ?_; refine JL_loadE ty3 rfl (by first | exact Reads.view am) (i64s_get (by omega)) ?_; refine JL_m ?_; refine JL_eql rfl rfl ?_; refine JL_split (fun h17 => ?_) (fun h17 => ?_)
    · refine JL_du 18 [] [_] ?_; refine JC_true rfl ?_; refine JC_sr ?_; refine JL_assign rfl ?_; refine JL_du 18 [] [_] ?_; refine JC_ret ?_; refine JE_block_ret ?_; refine JE_then_ret ?_; refine JE_nextS_ret ?_; refine JE_block_ret ?_; refine JE_then_ret ?_; refine JE_ret (vs := [_]) [] Try.results24 ⟨rfl, rfl⟩ ?_ ?_
      · rw [decide_eq_true (p := x ∈ L) (h17 ▸ getD_memI (by omega))]; exact ⟨rfl, rfl⟩
      · exact all_nil
    · refine JL_du 18 [] [_] ?_; refine JC_false rfl ?_; refine JC_skip ?_; refine JE_block_normal ?_; refine JE_then ?_; refine JC_region ?_; refine JL_m ?_; refine JL_add_to rfl rfl (IntWalk.i64_in _ (by omega)) ?_; refine JL_assign rfl ?_; refine JL_nu 18 [] [_] ?_; refine JE_nextS (k + 1) (by kernel_rfl) ?_ ?_ (by kernel_rfl) ?_
      · exact ⟨by omega, fun j hj2 => by
        by_cases h : j = k
        · subst h; exact h17
        · exact hj j (by omega)⟩
      · first | omega | (dsimp only; omega)
      · exact subset_app subset_nil ss0
  · refine JL_du 18 [] [_] ?_; refine JC_false rfl ?_; refine JC_exit ?_; refine JE_then_exit ?_; refine JE_nextS_exit ?_; refine JE_block_exit ?_; refine JE_then ?_; refine JC_sr ?_; refine JL_assign rfl ?_; refine JL_du 18 [] [_] ?_; refine JC_ret ?_; refine JE_ret (vs := [_]) [] Try.results24 ⟨rfl, rfl⟩ ?_ ?_
    · rw [decide_eq_false (p := x ∈ L) (no_mem (fun j h => hj j (by omega)))]; exact ⟨rfl, rfl⟩
    · exact all_nil

theorem hasT_con {ad : Option Addr} {c : Nat} {L : List Int} {x : Int} (hln : L.length ≤ 1000000) (h : x ∈ L) : ConF Try.prog 24 [.slice ad L.length c, .int .i64 x] [vCells ad (i64s L)] (fun v φo => v = .bool true ∧ φo = []) := by
  have e := has_con (ad := ad) (c := c) (L := L) (x := x) hln
  rw [decide_eq_true h] at e; exact e
theorem hasF_con {ad : Option Addr} {c : Nat} {L : List Int} {x : Int} (hln : L.length ≤ 1000000) (h : ¬ x ∈ L) : ConF Try.prog 24 [.slice ad L.length c, .int .i64 x] [vCells ad (i64s L)] (fun v φo => v = .bool false ∧ φo = []) := by
  have e := has_con (ad := ad) (c := c) (L := L) (x := x) hln
  rw [decide_eq_false h] at e; exact e


theorem bpairs_con {ad1 ad2 : Option Addr} {c1 c2 : Nat} {l : List Pr} (hln : l.length ≤ 1000000) :
    ConF Try.prog 11 [.slice ad1 l.length c1, .slice ad2 l.length c2] [vCells ad1 (pcells l), vCells ad2 (pcells l)]
      (fun v φo => v = .bool (true) ∧ φo = []) := by
  refine ConF_of Try.func11 rfl 26 _ rfl rfl ?_; intro w0; refine JC_norm ⟨26, [], [_, _, _, _, _, _, _, _, _, _, _, _, _, _, _, _, _, _, _, _, _, _, _, _, _, _]⟩ [] [_, _] rfl rfl rfl ?_; refine JC_sr ?_; refine JL_assign rfl ?_; refine JL_du 26 [] [_, _] ?_; refine JC_seq ?_; refine JC_sr ?_; refine JL_m ?_; refine JL_len sl25 rfl ?_; refine JL_m ?_; refine JL_len sl25 rfl ?_; refine JL_neq rfl rfl ?_; refine JL_split (fun h10 => ?_) (fun h10 => ?_)
  · exact absurd rfl h10
  · refine JL_du 26 [] [_, _] ?_; refine JC_false rfl ?_; refine JC_skip ?_; refine JE_then ?_; refine JC_seq ?_; refine JC_sr ?_; refine JL_assign rfl ?_; refine JL_du 26 [] [_, _] ?_; refine JC_block ?_; refine JC_loopS ((Nat)) (fun (k : Nat) => k ≤ l.length) (fun (k : Nat) => l.length - k) (fun u (k : Nat) => [none, none, none, none, some (u 4), some (.int .i64 (k : Nat)), none, none, none, none, none, some (u 11), some (u 12), some (u 13), some (u 14), some (u 15), some (u 16), some (u 17), some (u 18), some (u 19), some (u 20), some (u 21), some (u 22), some (u 23), some (u 24), some (u 25)]) (fun (k : Nat) => []) (fun (k : Nat) => []) (0) (by kernel_rfl) ?_ (by kernel_rfl) ?_ ?_
    · exact Nat.zero_le _
    · exact subset_nil
    intro u k hk; refine JC_nm 26 [] [_, _] ?_; refine JC_seq ?_; refine JC_sr ?_; refine JL_m ?_; refine JL_m ?_; refine JL_len sl25 rfl ?_; refine JL_lss rfl rfl ?_; refine JL_split (fun h14 => ?_) (fun h14 => ?_)
    · refine JL_du 26 [] [_, _] ?_; refine JC_true rfl ?_; refine JC_skip ?_; refine JE_then ?_; refine JC_seq ?_; refine JC_block ?_; refine JC_seq ?_; refine JC_drawT mixed 8 [spV 17 [] _, spV 18 [] _, spV 19 [0, 1] _, spV 20 [2] _, spV 21 [] _, spV 22 [] _, spV 23 [4, 5] _, spV 24 [6] _] ⟨oM, oM, OblS_V (fun vals ex ψ => (by refine JL_normQ _ (_ :: _ :: ψ) rfl rfl ?_; refine JL_indexAddr k sl25 rfl rfl rfl (by omega) (by first | exact Reads.view am) (by rw [pcells_length]; omega) ?_; exact vz rfl)), OblS_V (fun vals ex ψ => (by refine JL_normQ _ (_ :: _ :: ψ) rfl rfl ?_; refine JL_loadEA (vs := [_, _]) ty60 (Nat.zero_lt_succ _) rfl (by first | exact Reads.view am) (pcells_getA (by omega)) ?_; exact vz rfl)), oM, oM, OblS_V (fun vals ex ψ => (by refine JL_normQ _ (_ :: _ :: ψ) rfl rfl ?_; refine JL_indexAddr k sl25 rfl rfl rfl (by omega) (by first | exact Reads.view am) (by rw [pcells_length]; omega) ?_; exact vz rfl)), OblS_V (fun vals ex ψ => (by refine JL_normQ _ (_ :: _ :: ψ) rfl rfl ?_; refine JL_loadEA (vs := [_, _]) ty60 (Nat.zero_lt_succ _) rfl (by first | exact Reads.view am) (pcells_getA (by omega)) ?_; exact vz rfl)), trivial⟩ (by kernel_rfl) (fun vals bs => ?_)
      refine JL_normL [_] ⟨26, [(17, _), (18, _), (19, _), (20, _), (21, _), (22, _), (23, _), (24, _)], _⟩ [] [_, _] rfl rfl rfl rfl ?_; refine JL_neqP eqPair rfl rfl ?_; refine JL_split (fun h25 => ?_) (fun h25 => ?_)
      · exact absurd rfl h25
      · refine JL_du 26 [] [_, _] ?_; refine JC_false rfl ?_; refine JC_skip ?_; refine JE_block_normal ?_; refine JE_then ?_; refine JC_region ?_; refine JL_m ?_; refine JL_add_to rfl rfl (IntWalk.i64_in _ (by omega)) ?_; refine JL_assign rfl ?_; refine JL_nu 26 [] [_, _] ?_; refine JE_nextS (k + 1) (by kernel_rfl) ?_ ?_ (by kernel_rfl) ?_
        · exact (by omega : k + 1 ≤ l.length)
        · first | omega | (dsimp only; omega)
        · exact subset_app subset_nil ss0
    · refine JL_du 26 [] [_, _] ?_; refine JC_false rfl ?_; refine JC_exit ?_; refine JE_then_exit ?_; refine JE_nextS_exit ?_; refine JE_block_exit ?_; refine JE_then ?_; refine JC_sr ?_; refine JL_assign rfl ?_; refine JL_du 26 [] [_, _] ?_; refine JC_ret ?_; refine JE_ret (vs := [_]) [] Try.results11 ⟨rfl, rfl⟩ ?_ ?_
      · exact ⟨rfl, rfl⟩
      · exact all_nil

theorem bints_con {ad1 ad2 : Option Addr} {c1 c2 : Nat} {L : List Int} (hln : L.length ≤ 1000000) :
    ConF Try.prog 21 [.slice ad1 L.length c1, .slice ad2 L.length c2] [vCells ad1 (i64s L), vCells ad2 (i64s L)]
      (fun v φo => v = .bool (true) ∧ φo = []) := by
  refine ConF_of Try.func21 rfl 26 _ rfl rfl ?_; intro w0; refine JC_norm ⟨26, [], [_, _, _, _, _, _, _, _, _, _, _, _, _, _, _, _, _, _, _, _, _, _, _, _, _, _]⟩ [] [_, _] rfl rfl rfl ?_; refine JC_sr ?_; refine JL_assign rfl ?_; refine JL_du 26 [] [_, _] ?_; refine JC_seq ?_; refine JC_sr ?_; refine JL_m ?_; refine JL_len sl41 rfl ?_; refine JL_m ?_; refine JL_len sl41 rfl ?_; refine JL_neq rfl rfl ?_; refine JL_split (fun h10 => ?_) (fun h10 => ?_)
  · exact absurd rfl h10
  · refine JL_du 26 [] [_, _] ?_; refine JC_false rfl ?_; refine JC_skip ?_; refine JE_then ?_; refine JC_seq ?_; refine JC_sr ?_; refine JL_assign rfl ?_; refine JL_du 26 [] [_, _] ?_; refine JC_block ?_; refine JC_loopS ((Nat)) (fun (k : Nat) => k ≤ L.length) (fun (k : Nat) => L.length - k) (fun u (k : Nat) => [none, none, none, none, some (u 4), some (.int .i64 (k : Nat)), none, none, none, none, none, some (u 11), some (u 12), some (u 13), some (u 14), some (u 15), some (u 16), some (u 17), some (u 18), some (u 19), some (u 20), some (u 21), some (u 22), some (u 23), some (u 24), some (u 25)]) (fun (k : Nat) => []) (fun (k : Nat) => []) (0) (by kernel_rfl) ?_ (by kernel_rfl) ?_ ?_
    · exact Nat.zero_le _
    · exact subset_nil
    intro u k hk; refine JC_nm 26 [] [_, _] ?_; refine JC_seq ?_; refine JC_sr ?_; refine JL_m ?_; refine JL_m ?_; refine JL_len sl41 rfl ?_; refine JL_lss rfl rfl ?_; refine JL_split (fun h14 => ?_) (fun h14 => ?_)
    · refine JL_du 26 [] [_, _] ?_; refine JC_true rfl ?_; refine JC_skip ?_; refine JE_then ?_; refine JC_seq ?_; refine JC_block ?_; refine JC_seq ?_; refine JC_drawT mixed 8 [spV 17 [] _, spV 18 [] _, spV 19 [0, 1] _, spV 20 [2] _, spV 21 [] _, spV 22 [] _, spV 23 [4, 5] _, spV 24 [6] _] ⟨oM, oM, OblS_V (fun vals ex ψ => (by refine JL_normQ _ (_ :: _ :: ψ) rfl rfl ?_; refine JL_idx k sl41 rfl rfl rfl (by omega) (by first | exact Reads.view am) (by first | (rw [u32s_length]; omega) | (rw [i64s_length]; omega)) ?_; exact vz rfl)), OblS_V (fun vals ex ψ => (by refine JL_normQ _ (_ :: _ :: ψ) rfl rfl ?_; refine JL_loadE ty3 rfl (by first | exact Reads.view am) (i64s_get (by omega)) ?_; exact vz rfl)), oM, oM, OblS_V (fun vals ex ψ => (by refine JL_normQ _ (_ :: _ :: ψ) rfl rfl ?_; refine JL_idx k sl41 rfl rfl rfl (by omega) (by first | exact Reads.view am) (by first | (rw [u32s_length]; omega) | (rw [i64s_length]; omega)) ?_; exact vz rfl)), OblS_V (fun vals ex ψ => (by refine JL_normQ _ (_ :: _ :: ψ) rfl rfl ?_; refine JL_loadE ty3 rfl (by first | exact Reads.view am) (i64s_get (by omega)) ?_; exact vz rfl)), trivial⟩ (by kernel_rfl) (fun vals bs => ?_)
      refine JL_normL [_] ⟨26, [(17, _), (18, _), (19, _), (20, _), (21, _), (22, _), (23, _), (24, _)], _⟩ [] [_, _] rfl rfl rfl rfl ?_; refine JL_neq rfl rfl ?_; refine JL_split (fun h25 => ?_) (fun h25 => ?_)
      · exact absurd rfl h25
      · refine JL_du 26 [] [_, _] ?_; refine JC_false rfl ?_; refine JC_skip ?_; refine JE_block_normal ?_; refine JE_then ?_; refine JC_region ?_; refine JL_m ?_; refine JL_add_to rfl rfl (IntWalk.i64_in _ (by omega)) ?_; refine JL_assign rfl ?_; refine JL_nu 26 [] [_, _] ?_; refine JE_nextS (k + 1) (by kernel_rfl) ?_ ?_ (by kernel_rfl) ?_
        · exact (by omega : k + 1 ≤ L.length)
        · first | omega | (dsimp only; omega)
        · exact subset_app subset_nil ss0
    · refine JL_du 26 [] [_, _] ?_; refine JC_false rfl ?_; refine JC_exit ?_; refine JE_then_exit ?_; refine JE_nextS_exit ?_; refine JE_block_exit ?_; refine JE_then ?_; refine JC_sr ?_; refine JL_assign rfl ?_; refine JL_du 26 [] [_, _] ?_; refine JC_ret ?_; refine JE_ret (vs := [_]) [] Try.results21 ⟨rfl, rfl⟩ ?_ ?_
      · exact ⟨rfl, rfl⟩
      · exact all_nil

theorem bents_con {ad1 ad2 : Option Addr} {c1 c2 : Nat} {l : List Pr} (hln : l.length ≤ 1000000) :
    ConF Try.prog 22 [.slice ad1 l.length c1, .slice ad2 l.length c2] [vCells ad1 (pcells l), vCells ad2 (pcells l)]
      (fun v φo => v = .bool (true) ∧ φo = []) := by
  refine ConF_of Try.func22 rfl 26 _ rfl rfl ?_; intro w0; refine JC_norm ⟨26, [], [_, _, _, _, _, _, _, _, _, _, _, _, _, _, _, _, _, _, _, _, _, _, _, _, _, _]⟩ [] [_, _] rfl rfl rfl ?_; refine JC_sr ?_; refine JL_assign rfl ?_; refine JL_du 26 [] [_, _] ?_; refine JC_seq ?_; refine JC_sr ?_; refine JL_m ?_; refine JL_len sl33 rfl ?_; refine JL_m ?_; refine JL_len sl33 rfl ?_; refine JL_neq rfl rfl ?_; refine JL_split (fun h10 => ?_) (fun h10 => ?_)
  · exact absurd rfl h10
  · refine JL_du 26 [] [_, _] ?_; refine JC_false rfl ?_; refine JC_skip ?_; refine JE_then ?_; refine JC_seq ?_; refine JC_sr ?_; refine JL_assign rfl ?_; refine JL_du 26 [] [_, _] ?_; refine JC_block ?_; refine JC_loopS ((Nat)) (fun (k : Nat) => k ≤ l.length) (fun (k : Nat) => l.length - k) (fun u (k : Nat) => [none, none, none, none, some (u 4), some (.int .i64 (k : Nat)), none, none, none, none, none, some (u 11), some (u 12), some (u 13), some (u 14), some (u 15), some (u 16), some (u 17), some (u 18), some (u 19), some (u 20), some (u 21), some (u 22), some (u 23), some (u 24), some (u 25)]) (fun (k : Nat) => []) (fun (k : Nat) => []) (0) (by kernel_rfl) ?_ (by kernel_rfl) ?_ ?_
    · exact Nat.zero_le _
    · exact subset_nil
    intro u k hk; refine JC_nm 26 [] [_, _] ?_; refine JC_seq ?_; refine JC_sr ?_; refine JL_m ?_; refine JL_m ?_; refine JL_len sl33 rfl ?_; refine JL_lss rfl rfl ?_; refine JL_split (fun h14 => ?_) (fun h14 => ?_)
    · refine JL_du 26 [] [_, _] ?_; refine JC_true rfl ?_; refine JC_skip ?_; refine JE_then ?_; refine JC_seq ?_; refine JC_block ?_; refine JC_seq ?_; refine JC_drawT mixed 8 [spV 17 [] _, spV 18 [] _, spV 19 [0, 1] _, spV 20 [2] _, spV 21 [] _, spV 22 [] _, spV 23 [4, 5] _, spV 24 [6] _] ⟨oM, oM, OblS_V (fun vals ex ψ => (by refine JL_normQ _ (_ :: _ :: ψ) rfl rfl ?_; refine JL_indexAddr k sl33 rfl rfl rfl (by omega) (by first | exact Reads.view am) (by rw [pcells_length]; omega) ?_; exact vz rfl)), OblS_V (fun vals ex ψ => (by refine JL_normQ _ (_ :: _ :: ψ) rfl rfl ?_; refine JL_loadEA (vs := [_, _]) ty37 (Nat.zero_lt_succ _) rfl (by first | exact Reads.view am) (pcells_getA (by omega)) ?_; exact vz rfl)), oM, oM, OblS_V (fun vals ex ψ => (by refine JL_normQ _ (_ :: _ :: ψ) rfl rfl ?_; refine JL_indexAddr k sl33 rfl rfl rfl (by omega) (by first | exact Reads.view am) (by rw [pcells_length]; omega) ?_; exact vz rfl)), OblS_V (fun vals ex ψ => (by refine JL_normQ _ (_ :: _ :: ψ) rfl rfl ?_; refine JL_loadEA (vs := [_, _]) ty37 (Nat.zero_lt_succ _) rfl (by first | exact Reads.view am) (pcells_getA (by omega)) ?_; exact vz rfl)), trivial⟩ (by kernel_rfl) (fun vals bs => ?_)
      refine JL_normL [_] ⟨26, [(17, _), (18, _), (19, _), (20, _), (21, _), (22, _), (23, _), (24, _)], _⟩ [] [_, _] rfl rfl rfl rfl ?_; refine JL_neqP eqEntry rfl rfl ?_; refine JL_split (fun h25 => ?_) (fun h25 => ?_)
      · exact absurd rfl h25
      · refine JL_du 26 [] [_, _] ?_; refine JC_false rfl ?_; refine JC_skip ?_; refine JE_block_normal ?_; refine JE_then ?_; refine JC_region ?_; refine JL_m ?_; refine JL_add_to rfl rfl (IntWalk.i64_in _ (by omega)) ?_; refine JL_assign rfl ?_; refine JL_nu 26 [] [_, _] ?_; refine JE_nextS (k + 1) (by kernel_rfl) ?_ ?_ (by kernel_rfl) ?_
        · exact (by omega : k + 1 ≤ l.length)
        · first | omega | (dsimp only; omega)
        · exact subset_app subset_nil ss0
    · refine JL_du 26 [] [_, _] ?_; refine JC_false rfl ?_; refine JC_exit ?_; refine JE_then_exit ?_; refine JE_nextS_exit ?_; refine JE_block_exit ?_; refine JE_then ?_; refine JC_sr ?_; refine JL_assign rfl ?_; refine JL_du 26 [] [_, _] ?_; refine JC_ret ?_; refine JE_ret (vs := [_]) [] Try.results22 ⟨rfl, rfl⟩ ?_ ?_
      · exact ⟨rfl, rfl⟩
      · exact all_nil

theorem bspec_con {ad1 ad2 : Option Addr} {c1 c2 : Nat} {l : List Spc} (hln : l.length ≤ 1000000) :
    ConF Try.prog 12 [.slice ad1 l.length c1, .slice ad2 l.length c2] [vCells ad1 (scells l), vCells ad2 (scells l)]
      (fun v φo => v = .bool (true) ∧ φo = []) := by
  refine ConF_of Try.func12 rfl 26 _ rfl rfl ?_; intro w0; refine JC_norm ⟨26, [], [_, _, _, _, _, _, _, _, _, _, _, _, _, _, _, _, _, _, _, _, _, _, _, _, _, _]⟩ [] [_, _] rfl rfl rfl ?_; refine JC_sr ?_; refine JL_assign rfl ?_; refine JL_du 26 [] [_, _] ?_; refine JC_seq ?_; refine JC_sr ?_; refine JL_m ?_; refine JL_len sl22 rfl ?_; refine JL_m ?_; refine JL_len sl22 rfl ?_; refine JL_neq rfl rfl ?_; refine JL_split (fun h10 => ?_) (fun h10 => ?_)
  · exact absurd rfl h10
  · refine JL_du 26 [] [_, _] ?_; refine JC_false rfl ?_; refine JC_skip ?_; refine JE_then ?_; refine JC_seq ?_; refine JC_sr ?_; refine JL_assign rfl ?_; refine JL_du 26 [] [_, _] ?_; refine JC_block ?_; refine JC_loopS ((Nat)) (fun (k : Nat) => k ≤ l.length) (fun (k : Nat) => l.length - k) (fun u (k : Nat) => [none, none, none, none, some (u 4), some (.int .i64 (k : Nat)), none, none, none, none, none, some (u 11), some (u 12), some (u 13), some (u 14), some (u 15), some (u 16), some (u 17), some (u 18), some (u 19), some (u 20), some (u 21), some (u 22), some (u 23), some (u 24), some (u 25)]) (fun (k : Nat) => []) (fun (k : Nat) => []) (0) (by kernel_rfl) ?_ (by kernel_rfl) ?_ ?_
    · exact Nat.zero_le _
    · exact subset_nil
    intro u k hk; refine JC_nm 26 [] [_, _] ?_; refine JC_seq ?_; refine JC_sr ?_; refine JL_m ?_; refine JL_m ?_; refine JL_len sl22 rfl ?_; refine JL_lss rfl rfl ?_; refine JL_split (fun h14 => ?_) (fun h14 => ?_)
    · refine JL_du 26 [] [_, _] ?_; refine JC_true rfl ?_; refine JC_skip ?_; refine JE_then ?_; refine JC_seq ?_; refine JC_block ?_; refine JC_seq ?_; refine JC_drawT mixed 8 [spV 17 [] _, spV 18 [] _, spV 19 [0, 1] _, spV 20 [2] _, spV 21 [] _, spV 22 [] _, spV 23 [4, 5] _, spV 24 [6] _] ⟨oM, oM, OblS_V (fun vals ex ψ => (by refine JL_normQ _ (_ :: _ :: ψ) rfl rfl ?_; refine JL_indexAddr k sl22 rfl rfl rfl (by omega) (by first | exact Reads.view am) (by rw [scells_length]; omega) ?_; exact vz rfl)), OblS_V (fun vals ex ψ => (by refine JL_normQ _ (_ :: _ :: ψ) rfl rfl ?_; refine JL_loadEA (vs := [_, _, _, _, _, _, _]) ty39 (Nat.zero_lt_succ _) rfl (by first | exact Reads.view am) (scells_getA (by omega)) ?_; exact vz rfl)), oM, oM, OblS_V (fun vals ex ψ => (by refine JL_normQ _ (_ :: _ :: ψ) rfl rfl ?_; refine JL_indexAddr k sl22 rfl rfl rfl (by omega) (by first | exact Reads.view am) (by rw [scells_length]; omega) ?_; exact vz rfl)), OblS_V (fun vals ex ψ => (by refine JL_normQ _ (_ :: _ :: ψ) rfl rfl ?_; refine JL_loadEA (vs := [_, _, _, _, _, _, _]) ty39 (Nat.zero_lt_succ _) rfl (by first | exact Reads.view am) (scells_getA (by omega)) ?_; exact vz rfl)), trivial⟩ (by kernel_rfl) (fun vals bs => ?_)
      refine JL_normL [_] ⟨26, [(17, _), (18, _), (19, _), (20, _), (21, _), (22, _), (23, _), (24, _)], _⟩ [] [_, _] rfl rfl rfl rfl ?_; refine JL_neqG (p := l.getD k dS) (q := l.getD k dS) eqSpec rfl rfl ?_; rw [decide_eq_false (fun h => h rfl)]; refine JL_du 26 [] [_, _] ?_; refine JC_false rfl ?_; refine JC_skip ?_; refine JE_block_normal ?_; refine JE_then ?_; refine JC_region ?_; refine JL_m ?_; refine JL_add_to rfl rfl (IntWalk.i64_in _ (by omega)) ?_; refine JL_assign rfl ?_; refine JL_nu 26 [] [_, _] ?_; refine JE_nextS (k + 1) (by kernel_rfl) ?_ ?_ (by kernel_rfl) ?_
      · exact (by omega : k + 1 ≤ l.length)
      · first | omega | (dsimp only; omega)
      · exact subset_app subset_nil ss0
    · refine JL_du 26 [] [_, _] ?_; refine JC_false rfl ?_; refine JC_exit ?_; refine JE_then_exit ?_; refine JE_nextS_exit ?_; refine JE_block_exit ?_; refine JE_then ?_; refine JC_sr ?_; refine JL_assign rfl ?_; refine JL_du 26 [] [_, _] ?_; refine JC_ret ?_; refine JE_ret (vs := [_]) [] Try.results12 ⟨rfl, rfl⟩ ?_ ?_
      · exact ⟨rfl, rfl⟩
      · exact all_nil

end Go.Fw.K
