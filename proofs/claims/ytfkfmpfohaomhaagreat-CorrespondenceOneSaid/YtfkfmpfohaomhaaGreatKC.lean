/- Walks through functions of the given program: each meets its contract. (Printed by a program of this repo.) -/
import Derived.Test.YtfkfmpfohaomhaaGreatK1
import Derived.Test.YtfkfmpfohaomhaaGreatKA
import Derived.Test.YtfkfmpfohaomhaaGreatCoGL
import Derived.Test.YtfkfmpfohaomhaaGreatCoE
import Derived.Test.YtfkfmpfohaomhaaGreatProg
namespace Go.Fw.KC
open Go Go.RowKit Go.Proofs Go.Nat9 Go.Fw
attribute [local irreducible] JC JL JE
theorem ca13 : callable Tryz.prog 13 = true := by kernel_rfl
theorem ca15 : callable Tryz.prog 15 = true := by kernel_rfl
theorem ca22 : callable Tryz.prog 22 = true := by kernel_rfl
theorem ca28 : callable Tryz.prog 28 = true := by kernel_rfl
theorem ca31 : callable Tryz.prog 31 = true := by kernel_rfl
theorem ca32 : callable Tryz.prog 32 = true := by kernel_rfl
theorem ca33 : callable Tryz.prog 33 = true := by kernel_rfl
theorem ca34 : callable Tryz.prog 34 = true := by kernel_rfl
theorem ca35 : callable Tryz.prog 35 = true := by kernel_rfl
theorem fo44_0 : fOf Tryz.prog 44 0 = some 0 := by kernel_rfl
theorem fo57_0 : fOf Tryz.prog 57 0 = some 0 := by kernel_rfl
theorem fo57_1 : fOf Tryz.prog 57 1 = some 1 := by kernel_rfl
theorem mp74 : Tryz.prog.underlying 74 = some (.map 3 3) := by kernel_rfl
theorem sl39 : slOf Tryz.prog 39 = some (44, 2, 16, [.int .i64 0, .int .i64 0]) := by kernel_rfl
theorem sl46 : slOf Tryz.prog 46 = some (57, 2, 16, [.int .i64 0, .int .i64 0]) := by kernel_rfl
theorem st44 : stOf Tryz.prog 44 = some ([(0, 1), (1, 1)], [.int .i64 0, .int .i64 0]) := by kernel_rfl
theorem ty3 : tyOf Tryz.prog 3 = some (false, 1) := by kernel_rfl
theorem ty44 : tyOf Tryz.prog 44 = some (true, 2) := by kernel_rfl
theorem ty57 : tyOf Tryz.prog 57 = some (true, 2) := by kernel_rfl
theorem z44 : zeroOf Tryz.prog 44 = some [.int .i64 0, .int .i64 0] := by kernel_rfl
theorem z57 : zeroOf Tryz.prog 57 = some [.int .i64 0, .int .i64 0] := by kernel_rfl
end Go.Fw.KC
namespace Go.Fw.K
open Go Go.RowKit Go.Proofs Go.Nat9 Go.Fw Go.Fw.KC
attribute [local irreducible] JC JL JE

set_option maxHeartbeats 1000000 in
theorem mat_con {ad1 ad2 : Option Addr} {c1 c2 : Nat} {a b : List Spc} (hna : a.length ≤ 1000000) (hnb : b.length ≤ 1000000) {side : Int} :
    ConF Tryz.prog 13 [.slice ad1 a.length c1, .slice ad2 b.length c2, .int .i64 side] [vCells ad1 (scells a), vCells ad2 (scells b)]
      (fun v φo => ∃ (ad3 : Option Addr) (c3 : Nat), v = .tuple #[.slice ad3 (mtS a b side).length c3, .int .i64 (errP a b side)] ∧ ((mtS a b side).length ≤ c3 ∧ c3 ≤ 9223372036854775807) ∧ φo = [vCells ad3 (pcells (mtS a b side))]) := by
  have hll := prsS_len a b side
  have hml := mtS_len a b side
  refine ConF_of Tryz.func13 rfl 46 _ rfl rfl ?_; intro w0; refine JC_norm ⟨46, [], [_, _, _, _, _, _, _, _, _, _, _, _, _, _, _, _, _, _, _, _, _, _, _, _, _, _, _, _, _, _, _, _, _, _, _, _, _, _, _, _, _, _, _, _, _, _]⟩ [] [_, _] rfl rfl rfl ?_; refine JC_sr ?_; refine JL_assign rfl ?_; refine JL_assign rfl ?_; refine JL_du 46 [] [_, _] ?_; refine JC_sr ?_; refine JL_m ?_; refine JL_m ?_; refine JL_m ?_; refine JL_callF' (Asks.cons (holds_of_mem am) (Asks.cons (holds_of_mem am) Asks.nil)) (cpl_con (a := a) (b := b) (side := side) hna hnb) rfl ca22 ⟨rfl, rfl, rfl, rfl⟩ ?_; rintro _ _ ⟨ad19, c19, rfl, hc19, rfl⟩; refine JL_m ?_; refine JL_extract rfl rfl ?_; refine JL_extract rfl rfl ?_; refine JL_assign rfl ?_; refine JL_assign rfl ?_; refine JL_du 46 [] [_, _, _] ?_; refine JC_seq ?_; refine JC_sr ?_; refine JL_m ?_; refine JL_neq rfl rfl ?_; refine JL_split (fun h23 => ?_) (fun h23 => ?_)
  · refine JL_du 46 [] [_, _, _] ?_; refine JC_true rfl ?_; refine JC_sr ?_; refine JL_m ?_; refine JL_assign rfl ?_; refine JL_assign rfl ?_; refine JL_du 46 [] [_, _, _] ?_; refine JC_ret ?_; refine JE_then_ret ?_; refine JE_addView (f := true) (p := vCells none (pcells [])) (fun _ _ => nilP) ?_; refine JE_ret (vs := [_, _]) [vCells none (pcells [])] Tryz.results13 ⟨rfl, rfl, rfl⟩ ?_ ?_
    · rw [mtS_no h23]; exact ⟨none, 0, rfl, ⟨Nat.le_refl _, Nat.zero_le _⟩, rfl⟩
    · exact (all_cons am all_nil)
  · refine JL_du 46 [] [_, _, _] ?_; refine JC_false rfl ?_; refine JC_skip ?_; refine JE_then ?_; refine JC_sr ?_; refine JL_assign rfl ?_; refine JL_du 46 [] [_, _, _] ?_; refine JC_sr ?_; refine JL_m ?_; refine JL_callF' (Asks.cons (holds_of_mem am) Asks.nil) (dist_con (l := (prsS a b side)) (by omega)) rfl ca31 ⟨rfl, rfl⟩ ?_; rintro _ _ ⟨ad27, c27, b27, rfl, hc27, rfl⟩; rw [show srt (prsS a b side) = (mtS a b side) from rfl]; refine JL_m ?_; refine JL_extract rfl rfl ?_; refine JL_extract rfl rfl ?_; refine JL_assign rfl ?_; refine JL_assign rfl ?_; refine JL_du 46 [] [_, _, _, _, _] ?_; refine JC_seq ?_; refine JC_sr ?_; refine JL_m ?_; refine JL_len sl46 rfl ?_; refine JL_m ?_; refine JL_du 46 [] [_, _, _, _, _] ?_; refine JC_block ?_; refine JC_addNil 44 2 ?_; refine JC_norm ⟨46, [], [_, _, _, _, _, _, _, _, _, _, _, _, _, _, _, _, _, _, _, _, _, _, _, _, _, _, _, _, _, _, _, _, _, _, _, _, _, _, _, _, _, _, _, _, _, _]⟩ [osl _ _ _ _ _ _] [_, _, _, _, _] rfl rfl rfl ?_
    refine JC_loopS ((Nat) × (Option Addr) × (Nat)) (fun (i, ad3, cap3) => i ≤ (mtS a b side).length) (fun (i, ad3, cap3) => (mtS a b side).length - i) (fun u (i, ad3, cap3) => [none, none, none, none, none, none, none, none, none, none, some (.slice ad3 i cap3), none, none, none, some (u 14), none, none, none, none, none, none, none, none, none, none, none, none, none, none, none, none, none, some (.int .i64 (i : Nat)), some (u 33), some (u 34), some (u 35), some (u 36), some (u 37), some (u 38), some (u 39), some (u 40), some (u 41), some (u 42), some (u 43), some (u 44), none]) (fun (i, ad3, cap3) => [some (osl ad3 i cap3 44 2 (pcells ((mtS a b side).take i)))]) (fun (i, ad3, cap3) => []) (0, none, 0) (by kernel_rfl) ?_ (by kernel_rfl) ?_ ?_
    · exact Nat.zero_le _
    · exact subset_nil
    intro u i hi; obtain ⟨i, ad3, cap3⟩ := i; refine JC_nm 46 [osl _ _ _ _ _ _] [_, _, _, _, _] ?_; refine JC_sr ?_; refine JL_lss rfl rfl ?_; refine JL_split (fun h33 => ?_) (fun h33 => ?_)
    · refine JL_du 46 [osl _ _ _ _ _ _] [_, _, _, _, _] ?_; refine JC_seq ?_; refine JC_true rfl ?_; refine JC_skip ?_; refine JE_then ?_; refine JC_seq ?_; refine JC_block ?_; refine JC_sr ?_; refine JL_indexAddr i sl46 rfl rfl rfl (by omega) (by first | exact Reads.view am | (exact Reads.own 0 rfl)) (by rw [pcells_length]; omega) ?_; refine JL_loadEA (vs := [_, _]) ty57 (Nat.zero_lt_succ _) rfl (by first | exact Reads.view am | (exact Reads.own 0 rfl)) (pcells_getA (by omega)) ?_; refine JL_alloc z57 (fun b14 => ?_); refine JL_store (vs := [_, _]) 1 ty57 rfl rfl rfl (AllOne.cons rfl (AllOne.cons rfl AllOne.nil)) rfl (Nat.le_of_ble_eq_true rfl) ?_; refine JL_du 46 [osl _ _ _ _ _ _, box _ _ [_, _]] [_, _, _, _, _] ?_; refine JC_region ?_; refine JL_m ?_; refine JL_fieldAddr fo57_0 rfl ?_; refine JL_load 1 ty3 rfl rfl rfl ?_; refine JL_fieldAddr fo57_1 rfl ?_; refine JL_load 1 ty3 rfl rfl rfl ?_; refine JL_build (cs := [_, _]) [(0, [_]), (1, [_])] st44 ⟨⟨rfl, _, rfl, rfl⟩, ⟨rfl, _, rfl, rfl⟩, rfl⟩ rfl ?_
      refine JL_buildN (cs0 := [.int .i64 0, .int .i64 0]) (cs := [_, _]) [(0, [_, _])] sl39 (by kernel_rfl) ⟨⟨rfl, _, rfl, rfl⟩, rfl⟩ rfl rfl rfl rfl (fun g42 => ?_); refine JL_append (news := [_, _]) 0 sl39 rfl (by decide) rfl rfl rfl rfl (Reads.own 2 rfl) (AllOne.cons rfl (AllOne.cons rfl AllOne.nil)) (by omega) (by omega) (fun ad43 cap43 hc43 => ?_); refine JL_dropAt 2 ?_; refine JL_norm _ [osl _ _ _ _ _ _, box _ _ [_, _]] [_, _, _, _, _] rfl rfl rfl ?_; rw [pcells_snoc, ← takeP_succ (l := (mtS a b side)) (by omega)]; refine JL_assign rfl ?_; refine JL_nu 46 [osl _ _ _ _ _ _, box _ _ [_, _]] [_, _, _, _, _] ?_; refine JE_block_normal ?_; refine JE_then ?_; refine JC_region ?_; refine JL_add_to rfl rfl (IntWalk.i64_in _ (by omega)) ?_; refine JL_m ?_; refine JL_nu 46 [osl _ _ _ _ _ _, box _ _ [_, _]] [_, _, _, _, _] ?_; refine JE_dropAt 1 ?_; refine JE_norm _ [osl _ _ _ _ _ _] [_, _, _, _, _] rfl rfl rfl ?_; refine JE_nextS (i + 1, ad43, cap43) (by kernel_rfl) ?_ ?_ (by kernel_rfl) ?_
      · exact (by omega : i + 1 ≤ (mtS a b side).length)
      · first | omega | (dsimp only; omega)
      · exact subset_app subset_nil ss0
    · refine JL_du 46 [osl _ _ _ _ _ _] [_, _, _, _, _] ?_; refine JC_seq ?_; refine JC_false rfl ?_; refine JC_exit ?_; refine JE_then_exit ?_; refine JE_nextS_exit ?_; refine JE_block_exit ?_; refine JE_then ?_; refine JC_seq ?_
      have hie : i = (mtS a b side).length := by omega
      subst hie; refine JC_ownCap 0 rfl (fun hcap => ?_); refine JC_region ?_; refine JL_m ?_; refine JL_assign rfl ?_; refine JL_assign rfl ?_; refine JL_du 46 [osl _ _ _ _ _ _] [_, _, _, _, _] ?_; refine JC_ret ?_; refine JE_give 0 rfl ?_; refine JE_norm _ [] [_, _, _, _, _, _] rfl rfl rfl ?_; refine JE_ret (vs := [_, _]) [vCells ad3 (pcells ((mtS a b side).take (mtS a b side).length))] Tryz.results13 ⟨rfl, rfl, rfl⟩ ?_ ?_
      · rw [show errP a b side = 0 from Classical.not_not.1 h23, List.take_length]; exact ⟨ad3, cap3, rfl, hcap, rfl⟩
      · exact (all_cons am all_nil)

theorem spl1_con {k n : Int} :
    ConF Tryz.prog 33 [iv k, iv n] []
      (fun v φo => v = .bool (decide (n < 2)) ∧ φo = []) := by
  refine ConF_of Tryz.func33 rfl 7 _ rfl rfl ?_; intro w0; refine JC_norm ⟨7, [], [_, _, _, _, _, _, _]⟩ [] [] rfl rfl rfl ?_; refine JC_sr ?_; refine JL_assign rfl ?_; refine JL_du 7 [] [] ?_; refine JC_sr ?_; refine JL_m ?_; refine JL_lss rfl rfl ?_; refine JL_assign rfl ?_; refine JL_du 7 [] [] ?_; refine JC_ret ?_; refine JE_ret (vs := [_]) [] Tryz.results33 ⟨rfl, rfl⟩ ?_ ?_
  · exact ⟨rfl, rfl⟩
  · exact all_nil

set_option maxHeartbeats 1000000 in
theorem delI_con {b : Nat} {l : List (Int × Int)} (hnd : (l.map (·.1)).Nodup) :
    ConO Tryz.prog 32 [.map (some b), .func (.func 33) #[] #[]] [mapR b (keptM iv iv l delE []) l.length] []
      (fun v rout φo => v = retOf [] ∧ φo = [] ∧ rout = [mapR b ((mE iv iv l 0).filter fun x => !delE x) l.length]) := by
  refine ConO_of Tryz.func32 rfl 19 _ rfl rfl ?_; intro w0 p0 p1; refine JC_norm ⟨19, [], [_, _, _, _, _, _, _, _, _, _, _, _, _, _, _, _, _, _, _]⟩ [_] [_, _] rfl rfl rfl ?_; refine JC_sr ?_; refine JL_m ?_; refine JL_range 0 mp74 rfl rfl (fun b7 => ?_); refine JL_du 19 [_, _] [_, _] ?_; refine JC_block ?_; refine JC_loopS ((List Nat) × (Nat)) (fun (seen, c0) => l.length ≤ c0) (fun (seen, c0) => leftN iv iv l seen) (fun u (seen, c0) => [none, none, none, none, some (u 4), some (u 5), none, none, some (u 8), some (u 9), some (u 10), some (u 11), some (u 12), some (u 13), some (u 14), some (u 15), some (u 16), some (u 17), some (u 18)]) (fun (seen, c0) => [some (mapR b (keptM iv iv l delE seen) l.length), some (iterR b7 b l.length seen c0)]) (fun (seen, c0) => []) ([], l.length) (by kernel_rfl) ?_ (by kernel_rfl) ?_ ?_
  · exact Nat.le_refl _
  · exact subset_nil
  intro u i hc0; obtain ⟨seen, c0⟩ := i; refine JC_nm 19 [_, _] [_, _] ?_; refine JC_sr ?_; refine JL_next (es := keptM iv iv l delE seen) 0 1 rfl rfl rfl keptM_old hc0 (fun hd8 => ?_) (fun e8 he8 hs8 => ?_)
  · refine JL_extract rfl rfl ?_; refine JL_du 19 [_, _] [_, _] ?_; refine JC_seq ?_; refine JC_false rfl ?_; refine JC_exit ?_; refine JE_then_exit ?_; refine JE_nextS_exit ?_; refine JE_block_exit ?_; refine JE_dropAt 1 ?_; refine JE_norm _ [_] _ rfl rfl rfl ?_; rw [keptM_end hd8]; refine JE_endO (vs := []) [] Tryz.results32 rfl ?_ ?_ am am
    · exact ⟨rfl, rfl, rfl⟩
    · exact all_nil
  · obtain ⟨j8, p8, hj8, rfl⟩ := mE_mem (keptM_sub he8); refine JL_extract rfl rfl ?_; refine JL_du 19 [_, _] [_, _] ?_; refine JC_seq ?_; refine JC_true rfl ?_; refine JC_skip ?_; refine JE_then ?_; refine JC_block ?_; refine JC_sr ?_; refine JL_entry (e := ⟨iv p8.1, iv p8.2, 0 + j8⟩) 0 1 rfl rfl rfl he8 keptM_nodup ?_; refine JL_extract rfl rfl ?_; refine JL_extract rfl rfl ?_; refine JL_assign rfl ?_; refine JL_assign rfl ?_; refine JL_du 19 [_, _] [_, _] ?_; refine JC_sr ?_; refine JL_m ?_; refine JL_m ?_; refine JL_m ?_; refine JL_callF' Asks.nil (spl1_con (k := p8.1) (n := p8.2)) rfl ca33 ⟨rfl, rfl, rfl⟩ ?_; rintro _ _ ⟨rfl, rfl⟩; refine JL_split (fun h16 => ?_) (fun h16 => ?_)
    · refine JL_du 19 [_, _] [_, _] ?_; refine JC_true rfl ?_; refine JC_region ?_; refine JL_m ?_; refine JL_m ?_; refine JL_delete (a := p8.1) 0 mp74 keyInt rfl rfl rfl keptM_keys ⟨_, he8, rfl⟩ (fun jd ed hjd hkd => ?_); obtain rfl := keptM_one hnd (List.mem_of_getElem? hjd) he8 hkd (fun h => by simpa using h); rw [keptM_del hjd (decide_eq_true h16)]; refine JL_nu 19 [_, _] [_, _] ?_; refine JE_block_normal ?_; refine JE_nextS (seen ++ [0 + j8], l.length) (by kernel_rfl) ?_ ?_ (by kernel_rfl) ?_
      · exact Nat.le_refl _
      · exact leftN_lt (keptM_sub he8) hs8
      · exact subset_app subset_nil ss0
    · rw [← keptM_stay (seen := seen) (keptM_sub he8) (decide_eq_false h16)]; refine JL_du 19 [_, _] [_, _] ?_; refine JC_false rfl ?_; refine JC_skip ?_; refine JE_block_normal ?_; refine JE_nextS (seen ++ [0 + j8], l.length) (by kernel_rfl) ?_ ?_ (by kernel_rfl) ?_
      · exact Nat.le_refl _
      · exact leftN_lt (keptM_sub he8) hs8
      · exact subset_app subset_nil ss0

set_option maxHeartbeats 1000000 in
theorem spl_con {ad1 ad2 : Option Addr} {c1 c2 : Nat} {a b : List Spc} (hna : a.length ≤ 1000000) (hnb : b.length ≤ 1000000) {side : Int} :
    ConF Tryz.prog 15 [.slice ad1 a.length c1, .slice ad2 b.length c2, .int .i64 side] [vCells ad1 (scells a), vCells ad2 (scells b)]
      (fun v φo => ∃ (ad3 : Option Addr) (c3 : Nat), v = .tuple #[.slice ad3 (splS a b side).length c3, .int .i64 (errP a b side)] ∧ ((splS a b side).length ≤ c3 ∧ c3 ≤ 9223372036854775807) ∧ φo = [vCells ad3 (i64s (splS a b side))]) := by
  have hml := mtS_len a b side
  refine ConF_of Tryz.func15 rfl 41 _ rfl rfl ?_; intro w0; refine JC_norm ⟨41, [], [_, _, _, _, _, _, _, _, _, _, _, _, _, _, _, _, _, _, _, _, _, _, _, _, _, _, _, _, _, _, _, _, _, _, _, _, _, _, _, _, _]⟩ [] [_, _] rfl rfl rfl ?_; refine JC_sr ?_; refine JL_assign rfl ?_; refine JL_assign rfl ?_; refine JL_du 41 [] [_, _] ?_; refine JC_sr ?_; refine JL_m ?_; refine JL_m ?_; refine JL_m ?_; refine JL_callF' (Asks.cons (holds_of_mem am) (Asks.cons (holds_of_mem am) Asks.nil)) (mat_con (a := a) (b := b) (side := side) hna hnb) rfl ca13 ⟨rfl, rfl, rfl, rfl⟩ ?_; rintro _ _ ⟨ad17, c17, rfl, hc17, rfl⟩; refine JL_m ?_; refine JL_extract rfl rfl ?_; refine JL_extract rfl rfl ?_; refine JL_assign rfl ?_; refine JL_assign rfl ?_; refine JL_du 41 [] [_, _, _] ?_; refine JC_seq ?_; refine JC_sr ?_; refine JL_m ?_; refine JL_neq rfl rfl ?_; refine JL_split (fun h21 => ?_) (fun h21 => ?_)
  · refine JL_du 41 [] [_, _, _] ?_; refine JC_true rfl ?_; refine JC_sr ?_; refine JL_m ?_; refine JL_assign rfl ?_; refine JL_assign rfl ?_; refine JL_du 41 [] [_, _, _] ?_; refine JC_ret ?_; refine JE_then_ret ?_; refine JE_addView (f := true) (p := vCells none (i64s [])) (fun _ _ => nilI) ?_; refine JE_ret (vs := [_, _]) [vCells none (i64s [])] Tryz.results15 ⟨rfl, rfl, rfl⟩ ?_ ?_
    · rw [splS_no h21]; exact ⟨none, 0, rfl, ⟨Nat.le_refl _, Nat.zero_le _⟩, rfl⟩
    · exact (all_cons am all_nil)
  · refine JL_du 41 [] [_, _, _] ?_; refine JC_false rfl ?_; refine JC_skip ?_; refine JE_then ?_; refine JC_sr ?_; refine JL_makeMap (fun b23 => ?_); refine JL_assign rfl ?_; refine JL_du 41 [_] [_, _, _] ?_; refine JC_seq ?_; refine JC_sr ?_; refine JL_m ?_; refine JL_len sl39 rfl ?_; refine JL_m ?_; refine JL_du 41 [_] [_, _, _] ?_; refine JC_block ?_; refine JC_loopS ((Nat) × (List (Int × Int))) (fun (i, r) => i ≤ (mtS a b side).length ∧ cntI (((mtS a b side).take i).map (fun x : Pr => x.1)) = r) (fun (i, r) => (mtS a b side).length - i) (fun u (i, r) => [none, none, none, none, none, none, none, none, none, none, none, none, some (u 12), none, none, none, none, none, none, none, none, none, none, none, none, none, some (.int .i64 (i : Nat)), some (u 27), some (u 28), some (u 29), some (u 30), some (u 31), some (u 32), some (u 33), some (u 34), some (u 35), none, none, none, none, none]) (fun (i, r) => [some (mapR b23 (mE iv iv r 0) r.length)]) (fun (i, r) => []) (0, []) (by kernel_rfl) ?_ (by kernel_rfl) ?_ ?_
    · exact ⟨Nat.zero_le _, rfl⟩
    · exact subset_nil
    intro u i hC; obtain ⟨i, r⟩ := i; obtain ⟨hi, hr⟩ := hC; refine JC_nm 41 [_] [_, _, _] ?_
    have hnd : (r.map (·.1)).Nodup := by rw [← hr]; exact cntI_nodup _
    have hg : 0 ≤ getM 0 ((mtS a b side).getD i dP).1 r ∧ getM 0 ((mtS a b side).getD i dP).1 r ≤ 1000000 := by rw [← hr, cntI_get]; have h1 := List.count_le_length (a := ((mtS a b side).getD i dP).1) (l := ((mtS a b side).take i).map (fun x : Pr => x.1)); rw [List.length_map, List.length_take] at h1; omega
    refine JC_sr ?_; refine JL_lss rfl rfl ?_; refine JL_split (fun h27 => ?_) (fun h27 => ?_)
    · refine JL_du 41 [_] [_, _, _] ?_; refine JC_seq ?_; refine JC_true rfl ?_; refine JC_skip ?_; refine JE_then ?_; refine JC_seq ?_; refine JC_block ?_; refine JC_sr ?_; refine JL_indexAddr i sl39 rfl rfl rfl (by omega) (by first | exact Reads.view am) (by rw [pcells_length]; omega) ?_; refine JL_loadEA (vs := [_, _]) ty44 (Nat.zero_lt_succ _) rfl (by first | exact Reads.view am) (pcells_getA (by omega)) ?_; refine JL_alloc z44 (fun b12 => ?_); refine JL_store (vs := [_, _]) 1 ty44 rfl rfl rfl (AllOne.cons rfl (AllOne.cons rfl AllOne.nil)) rfl (Nat.le_of_ble_eq_true rfl) ?_; refine JL_du 41 [_, box _ _ [_, _]] [_, _, _] ?_; refine JC_region ?_; refine JL_m ?_; refine JL_fieldAddr fo44_0 rfl ?_; refine JL_load 1 ty3 rfl rfl rfl ?_; refine JL_lookup (a := ((mtS a b side).getD i dP).1) 0 mp74 keyInt zvInt hnd rfl rfl rfl ?_; refine JL_add_to rfl rfl (IntWalk.i64_in _ (by omega)) ?_; refine JL_mapUpdate (a := ((mtS a b side).getD i dP).1) (v := getM 0 ((mtS a b side).getD i dP).1 r + 1) 0 mp74 keyInt hnd rfl rfl rfl rfl ?_; refine JL_nu 41 [_, box _ _ [_, _]] [_, _, _] ?_; refine JE_block_normal ?_; refine JE_then ?_; refine JC_region ?_
      refine JL_add_to rfl rfl (IntWalk.i64_in _ (by omega)) ?_; refine JL_m ?_; refine JL_nu 41 [_, box _ _ [_, _]] [_, _, _] ?_; refine JE_dropAt 1 ?_; refine JE_norm _ [_] [_, _, _] rfl rfl rfl ?_; refine JE_nextS (i + 1, setM ((mtS a b side).getD i dP).1 (getM 0 ((mtS a b side).getD i dP).1 r + 1) r) (by kernel_rfl) ?_ ?_ (by kernel_rfl) ?_
      · exact ⟨by omega, by rw [mapP_step (by omega), cntI_snoc, hr]⟩
      · first | omega | (dsimp only; omega)
      · exact subset_app subset_nil ss0
    · refine JL_du 41 [_] [_, _, _] ?_; refine JC_seq ?_; refine JC_false rfl ?_; refine JC_exit ?_; refine JE_then_exit ?_; refine JE_nextS_exit ?_; refine JE_block_exit ?_; refine JE_then ?_; refine JC_seq ?_
      have hrl : r = cntI ((mtS a b side).map (fun x : Pr => x.1)) := by rw [← hr, List.take_of_length_le (by omega)]
      subst hrl
      have hcl := cntI_len ((mtS a b side).map (fun x : Pr => x.1))
      rw [List.length_map] at hcl; refine JC_region ?_; refine JL_m ?_; rw [← keptM_start (ek := iv) (ev' := iv) (l := cntI ((mtS a b side).map (fun x : Pr => x.1))) (del := delE)]; refine JL_callO AsksO.nil (delI_con (b := b23) (l := cntI ((mtS a b side).map (fun x : Pr => x.1))) (cntI_nodup _)) rfl ca32 ⟨rfl, rfl, rfl⟩ ?_; rintro _ _ _ ⟨rfl, rfl, rfl⟩; refine JL_du 41 [_] [_, _, _] ?_; refine JC_sr ?_; refine JL_m ?_; refine JL_callF' Asks.nil (keysI_con) rfl ca35 ⟨rfl, rfl⟩ ?_; rintro _ _ ⟨B39, rfl, rfl⟩; refine JL_giveMap 0 rfl ?_; refine JL_norm _ [] [_, _, _, _, _] rfl rfl rfl ?_; refine JL_callF' (Asks.cons (holds_of_mem am) (Asks.cons (holds_of_mem am) Asks.nil)) (sortedI_con (es := ((mE iv iv (cntI ((mtS a b side).map (fun x : Pr => x.1))) 0).filter fun x => !delE x)) (esI_kept _ _) (by have := List.length_filter_le (fun x => !delE x) (mE iv iv (cntI ((mtS a b side).map (fun x : Pr => x.1))) 0); rw [mE_length] at this; omega)) rfl ca34 ⟨rfl, rfl⟩ ?_; rintro _ _ ⟨ad40, c40, rfl, hc40, rfl⟩
      rw [kept_keys, show srtI (((cntI ((mtS a b side).map (fun x : Pr => x.1))).filter fun p => !decide (p.2 < 2)).map (·.1)) = (splS a b side) from rfl] at *; refine JL_assign rfl ?_; refine JL_assign rfl ?_; refine JL_du 41 [] [_, _, _, _, _, _] ?_; refine JC_ret ?_; refine JE_ret (vs := [_, _]) [vCells ad40 (i64s (splS a b side))] Tryz.results15 ⟨rfl, rfl, rfl⟩ ?_ ?_
      · rw [show errP a b side = 0 from Classical.not_not.1 h21]; exact ⟨ad40, c40, rfl, hc40, rfl⟩
      · exact (all_cons am all_nil)

set_option maxHeartbeats 1000000 in
theorem lmp_con {ad1 ad2 : Option Addr} {c1 c2 : Nat} {a b : List Spc} (hna : a.length ≤ 1000000) (hnb : b.length ≤ 1000000) {side : Int} :
    ConF Tryz.prog 16 [.slice ad1 a.length c1, .slice ad2 b.length c2, .int .i64 side] [vCells ad1 (scells a), vCells ad2 (scells b)]
      (fun v φo => ∃ (ad3 : Option Addr) (c3 : Nat), v = .tuple #[.slice ad3 (lmpS a b side).length c3, .int .i64 (errL a b side)] ∧ ((lmpS a b side).length ≤ c3 ∧ c3 ≤ 9223372036854775807) ∧ φo = [vCells ad3 (i64s (lmpS a b side))]) := by
  refine ConF_of Tryz.func16 rfl 21 _ rfl rfl ?_; intro w0; refine JC_norm ⟨21, [], [_, _, _, _, _, _, _, _, _, _, _, _, _, _, _, _, _, _, _, _, _]⟩ [] [_, _] rfl rfl rfl ?_; refine JC_sr ?_; refine JL_assign rfl ?_; refine JL_assign rfl ?_; refine JL_du 21 [] [_, _] ?_; refine JC_seq ?_; refine JC_sr ?_; refine JL_m ?_; refine JL_m ?_; refine JL_callF' (Asks.cons (holds_of_mem am) (Asks.cons (holds_of_mem am) Asks.nil)) (ccheck_con (a := a) (b := b) hna hnb) rfl ca28 ⟨rfl, rfl, rfl⟩ ?_; rintro _ _ ⟨rfl, rfl⟩; refine JL_assign rfl ?_; refine JL_du 21 [] [_, _] ?_; refine JC_sr ?_; refine JL_m ?_; refine JL_neq rfl rfl ?_; refine JL_split (fun h13 => ?_) (fun h13 => ?_)
  · refine JL_du 21 [] [_, _] ?_; refine JC_true rfl ?_; refine JC_sr ?_; refine JL_m ?_; refine JL_assign rfl ?_; refine JL_assign rfl ?_; refine JL_du 21 [] [_, _] ?_; refine JC_ret ?_; refine JE_then_ret ?_; refine JE_addView (f := true) (p := vCells none (i64s [])) (fun _ _ => nilI) ?_; refine JE_ret (vs := [_, _]) [vCells none (i64s [])] Tryz.results16 ⟨rfl, rfl, rfl⟩ ?_ ?_
    · rw [show lmpS a b side = [] from if_pos h13, show errL a b side = errC a b from if_pos h13]; exact ⟨none, 0, rfl, ⟨Nat.le_refl _, Nat.zero_le _⟩, rfl⟩
    · exact (all_cons am all_nil)
  · refine JL_du 21 [] [_, _] ?_; refine JC_false rfl ?_; refine JC_skip ?_; refine JE_then ?_; refine JC_sr ?_; refine JL_m ?_; refine JL_m ?_; refine JL_m ?_; refine JL_callF' (Asks.cons (holds_of_mem am) (Asks.cons (holds_of_mem am) Asks.nil)) (spl_con (a := b) (b := a) (side := side) hnb hna) rfl ca15 ⟨rfl, rfl, rfl, rfl⟩ ?_; rintro _ _ ⟨ad18, c18, rfl, hc18, rfl⟩; refine JL_extract rfl rfl ?_; refine JL_extract rfl rfl ?_; refine JL_assign rfl ?_; refine JL_assign rfl ?_; refine JL_du 21 [] [_, _, _] ?_; refine JC_ret ?_; refine JE_ret (vs := [_, _]) [vCells ad18 (i64s (splS b a side))] Tryz.results16 ⟨rfl, rfl, rfl⟩ ?_ ?_
    · rw [show lmpS a b side = splS b a side from if_neg h13, show errL a b side = errP b a side from if_neg h13]; exact ⟨ad18, c18, rfl, hc18, rfl⟩
    · exact (all_cons am all_nil)

end Go.Fw.K
