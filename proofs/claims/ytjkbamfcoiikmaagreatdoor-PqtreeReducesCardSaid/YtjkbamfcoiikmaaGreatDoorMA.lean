/- Walks through functions of the given program: each meets its contract. (Printed by a program of this repo.) -/
import Derived.Test.YtjkbamfcoiikmaaGreatDoorPqVW
import Derived.Test.YtjkbamfcoiikmaaGreatDoorFwTW
import Derived.Test.YtjkbamfcoiikmaaGreatDoorFwEE
import Derived.Test.YtjkbamfcoiikmaaGreatDoorProg
namespace Go.Fw.MA
open Go Go.RowKit Go.Proofs Go.Nat9 Go.Fw
attribute [local irreducible] JC JL JE
theorem ar98 : arOf Tryz.prog 98 = some (3, 1) := by kernel_rfl
theorem ca35 : callable Tryz.prog 35 = true := by kernel_rfl
theorem ca59 : callable Tryz.prog 59 = true := by kernel_rfl
theorem ca60 : callable Tryz.prog 60 = true := by kernel_rfl
theorem ca73 : callable Tryz.prog 73 = true := by kernel_rfl
theorem fo60_0 : fOf Tryz.prog 60 0 = some 0 := by kernel_rfl
theorem fo60_2 : fOf Tryz.prog 60 2 = some 2 := by kernel_rfl
theorem mixed : Tryz.prog.follows .mixedOrders = true := by kernel_rfl
theorem mp72 : Tryz.prog.underlying 72 = some (.map 3 4) := by kernel_rfl
theorem pt58 : Tryz.prog.underlying 58 = some (.pointer (Tryz.prog.pointee 58)) := by kernel_rfl
theorem sl57 : slOf Tryz.prog 57 = some (58, 1, 8, [.pointer none]) := by kernel_rfl
theorem st60 : stOf Tryz.prog 60 = some ([(0, 1), (1, 1), (2, 1)], [.int .i64 0, .bool false, .slice none 0 0]) := by kernel_rfl
theorem ty3 : tyOf Tryz.prog 3 = some (false, 1) := by kernel_rfl
theorem ty57 : tyOf Tryz.prog 57 = some (false, 1) := by kernel_rfl
theorem ty58 : tyOf Tryz.prog 58 = some (false, 1) := by kernel_rfl
theorem ty98 : tyOf Tryz.prog 98 = some (true, 3) := by kernel_rfl
theorem z98 : zeroOf Tryz.prog 98 = some [.slice none 0 0, .slice none 0 0, .slice none 0 0] := by kernel_rfl
end Go.Fw.MA
namespace Go.Fw.K
open Go Go.RowKit Go.Proofs Go.Nat9 Go.Fw Go.Fw.MA
attribute [local irreducible] JC JL JE

open Go.Fw.Pq
set_option maxHeartbeats 1000000 in
theorem state_con0 {mb : Nat} {R : List (Int × Bool)} (hR : (R.map (·.1)).Nodup) {b n : Nat} {q : Bool} {ad : Option Addr} {cap : Nat} {ks : List AT} (hf : Fit (.mk b n q ad cap ks))
    (IH : ∀ k ∈ ks, ConF Tryz.prog 59 [.map (some mb), ptr k] [vMap mb (mE iv bv R 0) R.length, vA k] (fun v φo => v = .int .i64 ((st (mS R) (er (k)) : Nat) : Int) ∧ φo = [])) :
    ConF Tryz.prog 59 [.map (some mb), nptr b] [vMap mb (mE iv bv R 0) R.length, vA (.mk b n q ad cap ks)]
      (fun v φo => v = .int .i64 ((st (mS R) (er (.mk b n q ad cap ks)) : Nat) : Int) ∧ φo = []) := by
 refine ConF_of Tryz.func59 rfl 45 (_ :: _ :: rp 43) rfl rfl ?_; intro w0; refine JC_st [] [_, _] ?_; refine JC_seq ?_
 have hcp := hf.cap
 have hln := hf.len
 refine JC_atOpen (f := false) (b := b) (n := n) (q := q) (ad := ad) (cap := cap) (ks := ks) am ?_; refine JC_region ?_; refine JL_a ?_; refine JL_dv 45 ?_; refine JC_seq ?_; refine JC_sr ?_; refine JL_m ?_; refine JL_nilCheckE rfl ?_; refine JL_fieldAddrE fo60_2 rfl rdg (show 0 < (ncells n q ad ks.length cap).length from Nat.zero_lt_succ _) ?_; refine JL_loadE ty57 rfl rdg rfl ?_; refine JL_len sl57 rfl ?_; refine JL_eql rfl rfl ?_; refine JL_split (fun h13 => ?_) (fun h13 => ?_)
 ·refine JL_dv 45 ?_; refine JC_true rfl ?_; refine JC_seq ?_; refine JC_sr ?_; refine JL_m ?_; refine JL_m ?_; refine JL_nilCheckE rfl ?_; refine JL_fieldAddrE fo60_0 rfl rdg (show 0 < (ncells n q ad ks.length cap).length from Nat.zero_lt_succ _) ?_; refine JL_loadE ty3 rfl rdg rfl ?_; refine JL_lookupV (a := ((n : Nat) : Int)) mp72 keyInt zvBool hR rfl rfl am ?_; refine JL_splitV (fun h19 => ?_) (fun h19 => ?_)
  ·refine JL_du 45 [] [_, _, _, _, _] ?_; refine JC_true rfl ?_; refine JC_sr ?_; refine JL_a ?_; refine JL_dv 45 ?_; refine JC_ret ?_; refine JE_then_ret ?_; refine JE_then_ret ?_; refine JE_ret (vs := [_]) [] Tryz.results59 ⟨rfl, rfl⟩ ?_ ?_
   · rw [st_of_len h13, if_pos (show mS R n = true from h19)]; exact ⟨rfl, rfl⟩
   · exact all_nil
  ·refine JL_du 45 [] [_, _, _, _, _] ?_; refine JC_false rfl ?_; refine JC_skip ?_; refine JE_then ?_; refine JC_sr ?_; refine JL_a ?_; refine JL_dv 45 ?_; refine JC_ret ?_; refine JE_then_ret ?_; refine JE_ret (vs := [_]) [] Tryz.results59 ⟨rfl, rfl⟩ ?_ ?_
   · rw [st_of_len h13, if_neg (show ¬ mS R n = true from by unfold mS; rw [h19]; exact Bool.false_ne_true)]; exact ⟨rfl, rfl⟩
   · exact all_nil
 ·refine JL_dv 45 ?_; refine JC_false rfl ?_; refine JC_skip ?_; refine JE_then ?_; refine JC_sr ?_; refine JL_m ?_; refine JL_m ?_; refine JL_nilCheckE rfl ?_; refine JL_fieldAddrE fo60_2 rfl rdg (show 0 < (ncells n q ad ks.length cap).length from Nat.zero_lt_succ _) ?_; refine JL_loadE ty57 rfl rdg rfl ?_; refine JL_idx 0 sl57 rfl rfl rfl om rdg (by rw [ptrs_length]; omega) ?_; refine JL_loadE ty58 rfl rdg (ptrs_get om) ?_; refine JL_callF' (Asks.cons (holds_of_mem am) (Asks.cons (holds_of_mem am) Asks.nil)) (conAs (IH _ (at_mem (i := 0) om)) (at_mem (i := 0) om)) rfl ca59 ⟨rfl, rfl, rfl⟩ ?_; rintro _ _ ⟨rfl, rfl⟩; refine JL_a ?_; refine JL_du 45 [] [_, _, _, _, _] ?_; refine JC_seq ?_; refine JC_sr ?_; refine JL_m ?_; refine JL_nilCheckE rfl ?_; refine JL_fieldAddrE fo60_2 rfl rdg (show 0 < (ncells n q ad ks.length cap).length from Nat.zero_lt_succ _) ?_; refine JL_loadE ty57 rfl rdg rfl ?_
  refine JL_slice 1 ks.length cap sl57 rfl (.some rfl rfl) .none .none (.inl rfl) om hcp (Nat.le_refl _) ?_; refine JL_len sl57 rfl ?_; refine JL_m ?_; refine JL_du 45 [] [_, _, _, _, _] ?_; refine JC_block ?_; refine JC_loopS ((Nat)) (fun (i : Nat) => i ≤ ks.length - 1 ∧ ∀ j, j < i → st (mS R) (er ((ks.drop 1).getD j default)) = st (mS R) (er (ks.getD 0 default))) (fun (i : Nat) => ks.length - 1 - i) (fun u (i : Nat) => (rn 4 (some (u 4) :: rn 2 (some (u 7) :: rn 26 (some (.int .i64 (i : Nat)) :: sc u 35 9 []))))) (fun (i : Nat) => []) (fun (i : Nat) => []) (0) kr ?_ kr ?_ ?_
  · exact ⟨Nat.zero_le _, fun j hj => absurd hj (Nat.not_lt_zero _)⟩
  · exact subset_nil
  intro u i hC; obtain ⟨hi, hj⟩ := hC; refine JC_nm 45 [] [_, _, _, _, _] ?_; refine JC_sr ?_; refine JL_lss rfl rfl ?_; refine JL_split (fun h35 => ?_) (fun h35 => ?_)
  ·refine JL_dv 45 ?_; refine JC_seq ?_; refine JC_true rfl ?_; refine JC_skip ?_; refine JE_then ?_; refine JC_seq ?_; refine JC_block ?_; refine JC_sr ?_; refine JL_idx i sl57 rfl rfl rfl om (Reads.sub (Reads.view am) cap 1 1 (by rw [ptrs_length]; omega)) (by rw [List.length_drop, ptrs_length]; omega) ?_; refine JL_loadE ty58 rfl (Reads.sub (Reads.view am) cap 1 1 (by rw [ptrs_length]; omega)) (by rw [← List.map_drop]; exact ptrs_get (by rw [List.length_drop]; omega)) ?_; refine JL_a ?_; refine JL_dv 45 ?_; refine JC_sr ?_; refine JL_m ?_; refine JL_m ?_; refine JL_callF' (Asks.cons (holds_of_mem am) (Asks.cons (holds_of_mem am) Asks.nil)) (conAs (IH _ (List.mem_of_mem_drop (at_mem (l := ks.drop 1) (i := i) (by rw [List.length_drop]; omega)))) (List.mem_of_mem_drop (at_mem (l := ks.drop 1) (i := i) (by rw [List.length_drop]; omega)))) rfl ca59 ⟨rfl, rfl, rfl⟩ ?_; rintro _ _ ⟨rfl, rfl⟩; refine JL_m ?_; refine JL_neq rfl rfl ?_; refine JL_split (fun h42 => ?_) (fun h42 => ?_)
   ·refine JL_du 45 [] [_, _, _, _, _] ?_; refine JC_true rfl ?_; refine JC_sr ?_; refine JL_a ?_; refine JL_dv 45 ?_; refine JC_ret ?_; refine JE_block_ret ?_; refine JE_then_ret ?_; refine JE_nextS_ret ?_; refine JE_block_ret ?_; refine JE_then_ret ?_; refine JE_ret (vs := [_]) [] Tryz.results59 ⟨rfl, rfl⟩ ?_ ?_
    · rw [st_of_kids h13, if_neg (fun hc => h42 (by rw [hc i om]))]; exact ⟨rfl, rfl⟩
    · exact all_nil
   ·refine JL_du 45 [] [_, _, _, _, _] ?_; refine JC_false rfl ?_; refine JC_skip ?_; refine JE_block_normal ?_; refine JE_then ?_; refine JC_region ?_; refine JL_add_to rfl rfl i6o ?_; refine JL_m ?_; refine JL_nv 45 ?_; refine JE_nextS (i + 1) kr ?_ ?_ kr ?_
    · exact ⟨by omega, fun j hj2 => by
      rcases Nat.lt_or_ge j i with h | h
      · exact hj j h
      · obtain rfl : j = i := by omega
        omega⟩
    · first | omega | (dsimp only; omega)
    · exact subset_app subset_nil ss0
  ·refine JL_dv 45 ?_; refine JC_seq ?_; refine JC_false rfl ?_; refine JC_exit ?_; refine JE_then_exit ?_; refine JE_nextS_exit ?_; refine JE_block_exit ?_; refine JE_then ?_; refine JC_sr ?_; refine JL_m ?_; refine JL_a ?_; refine JL_dv 45 ?_; refine JC_ret ?_; refine JE_ret (vs := [_]) [] Tryz.results59 ⟨rfl, rfl⟩ ?_ ?_
   · rw [st_of_kids h13, if_pos (fun j hj2 => hj j om)]; exact ⟨rfl, rfl⟩
   · exact all_nil

theorem state_con {mb : Nat} {R : List (Int × Bool)} (hR : (R.map (·.1)).Nodup) (t : AT) : Fit t → ConF Tryz.prog 59 [.map (some mb), ptr t] [vMap mb (mE iv bv R 0) R.length, vA t] (fun v φo => v = .int .i64 ((st (mS R) (er (t)) : Nat) : Int) ∧ φo = []) := by
  induction t using AT.ind with
  | h b n q ad cap ks ih => exact fun hf => state_con0 hR hf fun k hk => ih k hk (hf.kids k hk)

theorem group_con {ad : Option Addr} {c : Nat} {ks : List AT} (hc : ks.length ≤ c) (hl : ks.length ≤ 1000) (hk : ∀ k ∈ ks, Fit k) :
    ConA Tryz.prog 35 [.slice ad ks.length c] [vCells ad (ptrs ks), vAs ks]
      (fun v φo => ∃ o : List AT, v = optr o ∧ φo = [vAs o] ∧ o.map er = grp (ks.map er) ∧ ∀ t ∈ o, Fit t) := by
 refine ConA_of Tryz.func35 rfl 15 (_ :: rp 14) rfl rfl ?_; intro w0; refine JC_st [] [_, _] ?_; refine JC_sr ?_; refine JL_a ?_; refine JL_dv 15 ?_; refine JC_seq ?_; refine JC_sr ?_; refine JL_m ?_; refine JL_len sl57 rfl ?_; refine JL_dv 15 ?_; refine JC_block ?_; refine JC_sr ?_; refine JL_eql rfl rfl ?_; refine JL_split (fun h6 => ?_) (fun h6 => ?_)
 ·refine JL_a ?_; refine JL_dv 15 ?_; refine JC_true rfl ?_; refine JC_sr ?_; refine JL_a ?_; refine JL_dv 15 ?_; refine JC_ret ?_; refine JE_block_ret ?_; refine JE_then_ret ?_; refine JE_asNil ?_; refine JE_ret (vs := [_]) [vAs []] Tryz.results35 ⟨rfl, rfl⟩ ?_ ?_
  · exact ⟨[], rfl, rfl, (grp_er0 om).symm, fun t ht => by cases ht⟩
  · exact (all_cons am all_nil)
 ·refine JL_a ?_; refine JL_dv 15 ?_; refine JC_false rfl ?_; refine JC_sr ?_; refine JL_eql rfl rfl ?_; refine JL_split (fun h8 => ?_) (fun h8 => ?_)
  ·refine JL_a ?_; refine JL_dv 15 ?_; refine JC_true rfl ?_; refine JC_sr ?_; refine JL_m ?_; refine JL_idx 0 sl57 rfl rfl rfl om rdg (by rw [ptrs_length]; omega) ?_; refine JL_loadE ty58 rfl rdg (ptrs_get om) ?_; refine JL_a ?_; refine JL_dv 15 ?_; refine JC_ret ?_; refine JE_block_ret ?_; refine JE_then_ret ?_; refine JE_asSub (f := true) (l := ks) (m := [ks.getD 0 default]) am (fun x hx => by rw [List.mem_singleton.1 hx]; exact at_mem om) ?_; refine JE_ret (vs := [_]) [vAs [ks.getD 0 default]] Tryz.results35 ⟨rfl, rfl⟩ ?_ ?_
   · exact ⟨[ks.getD 0 default], rfl, rfl, (grp_er1 om).symm, fun t ht => by rw [List.mem_singleton.1 ht]; exact hk _ (at_mem om)⟩
   · exact (all_cons am all_nil)
  ·refine JL_a ?_; refine JL_dv 15 ?_; refine JC_false rfl ?_; refine JC_skip ?_; refine JE_block_normal ?_; refine JE_then ?_; refine JC_sr ?_; refine JL_m ?_; refine JL_build (cs := [_, _, _]) [(2, [_])] st60 ⟨⟨rfl, _, rfl, rfl⟩, rfl⟩ rfl ?_; refine JL_box rfl rfl (fun b14 => ?_); refine JL_a ?_; refine JL_du 15 [box _ _ [_, _, _]] [_, _] ?_; refine JC_ret ?_; refine JE_giveBox (b := b14) (cs := ncells 0 false ad ks.length c) 0 rfl ?_; refine JE_atMake (f := true) (b := b14) (n := 0) (q := false) (ad := ad) (cap := c) (ks := ks) am am am ?_; refine JE_asOne (f := true) (t := .mk b14 0 false ad c ks) am ?_; refine JE_ret (vs := [_]) [vAs [.mk b14 0 false ad c ks]] Tryz.results35 ⟨rfl, rfl⟩ ?_ ?_
   · exact ⟨[.mk b14 0 false ad c ks], rfl, rfl, by rw [List.map_singleton, er_mk om, grp_er2 om], fun t ht => by rw [List.mem_singleton.1 ht]; exact .nd hc hl om (fun e => by cases e) hk⟩
   · exact (all_cons am all_nil)

theorem line_con {ad : Option Addr} {c : Nat} {ks : List AT} (hc : ks.length ≤ c) (hl : ks.length ≤ 1000) (hk : ∀ k ∈ ks, Fit k) :
    ConA Tryz.prog 66 [.slice ad ks.length c] [vCells ad (ptrs ks), vAs ks]
      (fun v φo => ∃ o : List AT, v = optr o ∧ φo = [vAs o] ∧ o.map er = lne (ks.map er) ∧ ∀ t ∈ o, Fit t) := by
 refine ConA_of Tryz.func66 rfl 11 (_ :: rp 10) rfl rfl ?_; intro w0; refine JC_st [] [_, _] ?_; refine JC_sr ?_; refine JL_a ?_; refine JL_dv 11 ?_; refine JC_seq ?_; refine JC_sr ?_; refine JL_m ?_; refine JL_len sl57 rfl ?_; refine JL_lss rfl rfl ?_; refine JL_split (fun h5 => ?_) (fun h5 => ?_)
 ·refine JL_dv 11 ?_; refine JC_true rfl ?_; refine JC_sr ?_; refine JL_m ?_; refine JL_callA' true (AsksA.cons (holdsA_of_mem am) (AsksA.cons (holdsA_of_mem am) AsksA.nil)) (group_con hc hl hk) rfl ca35 ⟨rfl, rfl⟩ ?_; rintro _ _ ⟨o7, rfl, rfl, he7, hf7⟩; refine JL_a ?_; refine JL_du 11 [] [_, _, _] ?_; refine JC_ret ?_; refine JE_then_ret ?_; refine JE_ret (vs := [_]) [vAs o7] Tryz.results66 ⟨rfl, rfl⟩ ?_ ?_
  · exact ⟨o7, rfl, rfl, by rw [he7, lne_er_lt om], hf7⟩
  · exact (all_cons am all_nil)
 ·refine JL_dv 11 ?_; refine JC_false rfl ?_; refine JC_skip ?_; refine JE_then ?_; refine JC_sr ?_; refine JL_m ?_; refine JL_build (cs := [_, _, _]) [(1, [_]), (2, [_])] st60 ⟨⟨rfl, _, rfl, rfl⟩, ⟨rfl, _, rfl, rfl⟩, rfl⟩ rfl ?_; refine JL_box rfl rfl (fun b10 => ?_); refine JL_a ?_; refine JL_du 11 [box _ _ [_, _, _]] [_, _] ?_; refine JC_ret ?_; refine JE_giveBox (b := b10) (cs := ncells 0 true ad ks.length c) 0 rfl ?_; refine JE_atMake (f := true) (b := b10) (n := 0) (q := true) (ad := ad) (cap := c) (ks := ks) am am am ?_; refine JE_asOne (f := true) (t := .mk b10 0 true ad c ks) am ?_; refine JE_ret (vs := [_]) [vAs [.mk b10 0 true ad c ks]] Tryz.results66 ⟨rfl, rfl⟩ ?_ ?_
  · exact ⟨[.mk b10 0 true ad c ks], rfl, rfl, by rw [List.map_singleton, er_mk om, lne_er om], fun t ht => by rw [List.mem_singleton.1 ht]; exact .nd hc hl om (fun _ => by omega) hk⟩
  · exact (all_cons am all_nil)

theorem ncl_con {ad : Option Addr} {c : Nat} {ks : List AT} (hl : ks.length ≤ 1000) :
    ConO Tryz.prog 60 [.slice ad ks.length c] [] [vCells ad (ptrs ks)]
      (fun v rout φo => ∃ (ad3 : Option Addr) (c3 : Nat), v = .slice ad3 (ks).length c3 ∧ ((ks).length ≤ c3 ∧ c3 ≤ 9223372036854775807) ∧ rout = [osl ad3 (ks).length c3 58 1 (ptrs (ks))] ∧ φo = []) := by
 refine ConO_of Tryz.func60 rfl 8 (_ :: rp 7) rfl rfl ?_; intro w0 p0 p1; refine JC_st [] [_, _, _] ?_; refine JC_sr ?_; refine JL_a ?_; refine JL_dv 8 ?_; refine JC_seq ?_; refine JC_sr ?_; refine JL_m ?_; refine JL_eqlNil sl57 rfl rfl ?_; refine JL_splitV (fun h4 => ?_) (fun h4 => ?_)
 ·refine JL_fact (fun w s => nilAL s List.mem_cons_self h4) (fun hL => ?_); refine JL_dv 8 ?_; refine JC_true rfl ?_; refine JC_sr ?_; refine JL_a ?_; refine JL_dv 8 ?_; refine JC_ret ?_; refine JE_then_ret ?_; subst hL; refine JE_addNil 58 1 ?_; refine JE_retO (vs := [_]) [] Tryz.results60 ⟨rfl, rfl⟩ ?_ ?_ am am
  · exact ⟨none, 0, rfl, ⟨Nat.le_refl _, by omega⟩, rfl, rfl⟩
  · exact all_nil
 ·refine JL_dv 8 ?_; refine JC_false rfl ?_; refine JC_skip ?_; refine JE_then ?_; refine JC_sr ?_; refine JL_build0 sl57 (fun g5 => ?_); refine JL_m ?_; refine JL_append (news := ptrs ks) 0 sl57 rfl (by decide) rfl rfl rfl (by rw [ptrs_length, Nat.mul_one]) (Reads.view am) (ptrs_one ks) om om (fun ad7 cap7 hc7 => ?_); refine JL_norm _ [osl _ _ _ _ _ _] [_, _, _] rfl rfl rfl ?_; refine JL_a ?_; refine JL_du 8 [osl _ _ _ _ _ _] [_, _, _] ?_; refine JC_ret ?_; refine JE_retO (vs := [_]) [] Tryz.results60 ⟨rfl, rfl⟩ ?_ ?_ am am
  · exact ⟨ad7, cap7, by rw [Nat.zero_add]; rfl, by rw [Nat.zero_add] at hc7; exact hc7, by rw [Nat.zero_add]; rfl, rfl⟩
  · exact all_nil

set_option maxHeartbeats 1000000 in
theorem nrv_con {ad : Option Addr} {c : Nat} {ks : List AT} (hl : ks.length ≤ 1000) :
    ConO Tryz.prog 73 [.slice ad ks.length c] [osl ad ks.length c 58 1 (ptrs ks)] []
      (fun v rout φo => v = retOf [] ∧ rout = [osl ad ks.length c 58 1 (ptrs ks.reverse)] ∧ φo = []) := by
 refine ConO_of Tryz.func73 rfl 28 (_ :: rp 27) rfl rfl ?_; intro w0 p0 p1; refine JC_st [osl _ _ _ _ _ _] [_, _] ?_; refine JC_sr ?_; refine JL_m ?_; refine JL_len sl57 rfl ?_; refine JL_sub_to rfl rfl i6o ?_; rw [show ((ks.length : Int) - 1 : Int) = (ks.length : Int) - 1 - ((0 : Nat) : Int) from by omega]; refine JL_a ?_; refine JL_a ?_; refine JL_dv 28 ?_; refine JC_block ?_; refine JC_loopS ((Nat) × (List AT)) (fun (i, m) => 2 * i ≤ ks.length ∧ m.length = ks.length ∧ TRV ks i m) (fun (i, m) => ks.length - i) (fun u (i, m) => (rn 2 (some (.int .i64 (i : Nat)) :: some (.int .i64 ((ks.length : Int) - 1 - (i : Nat))) :: rn 3 (sc u 7 21 [])))) (fun (i, m) => [some (osl ad ks.length c 58 1 (ptrs m))]) (fun (i, m) => []) (0, ks) kr ?_ kr ?_ ?_
 · exact ⟨by omega, rfl, TRV.zero ks⟩
 · exact subset_nil
 intro u i hC; obtain ⟨i, m⟩ := i; obtain ⟨hi, hm, hv⟩ := hC; refine JC_nm 28 [osl _ _ _ _ _ _] [_, _] ?_; refine JC_seq ?_; refine JC_sr ?_; refine JL_m ?_; refine JL_m ?_; refine JL_lss rfl rfl ?_; refine JL_split (fun h9 => ?_) (fun h9 => ?_)
 ·refine JL_dv 28 ?_; refine JC_true rfl ?_; refine JC_skip ?_; refine JE_then ?_; refine JC_seq ?_; refine JC_block ?_; refine JC_drawX mixed 13 [2, 3] [([2, 3], 4), ([2], 3), ([3], 3), ([], 2)] [spV 14 [] _, spV 15 [] _, spV 16 [] _, spV 17 [] _, spV 18 [] _, spV 19 [] _, spV 20 [4, 5] _, spV 21 [6] _, spV 22 [] _, spV 23 [] _, spV 24 [8, 9] _, spV 25 [10] _, spV 26 [0, 1] _] ⟨oM, oM, oM, oM, oM, oM, OblS_V (fun vals ex ψ => (by refine JL_normQ _ (_ :: _ :: ψ) rfl rfl ?_; refine JL_idx (ks.length - 1 - i) sl57 rfl rfl om om (Reads.own 0 rfl) (by rw [ptrs_length]; omega) ?_; exact vz rfl)), OblS_V (fun vals ex ψ => (by refine JL_normQ _ (_ :: _ :: ψ) rfl rfl ?_; refine JL_loadE ty58 rfl (Reads.own 0 rfl) (ptrs_get om) ?_; exact vz rfl)), oM, oM, OblS_V (fun vals ex ψ => (by refine JL_normQ _ (_ :: _ :: ψ) rfl rfl ?_; refine JL_idx i sl57 rfl rfl rfl om (Reads.own 0 rfl) (by rw [ptrs_length]; omega) ?_; exact vz rfl)), OblS_V (fun vals ex ψ => (by refine JL_normQ _ (_ :: _ :: ψ) rfl rfl ?_; refine JL_loadE ty58 rfl (Reads.own 0 rfl) (ptrs_get om) ?_; exact vz rfl)), OblS_V (fun vals ex ψ => (by refine JL_normQ _ (_ :: _ :: ψ) rfl rfl ?_; refine JL_idx i sl57 rfl rfl rfl om (Reads.own 0 rfl) (by rw [ptrs_length]; omega) ?_; exact vz rfl)), trivial⟩ kr rfl rfl ⟨fun vals bs r => ?_, fun vals bs r => ?_, fun vals bs r => ?_, fun vals bs r => ?_, trivial⟩
  ·refine JL_normL [_] ⟨28, [(14, _), (15, _), (16, _), (17, _), (18, _), (19, _), (20, _), (21, _), (22, _), (23, _), (24, _), (25, _), (26, _)], _⟩ [osl _ _ _ _ _ _] [_, _, _, _] rfl rfl rfl rfl ?_; generalize vals (0 + 1 + 1) = x16; generalize vals (0 + 1 + 1 + 1) = x17; refine JL_storeE (vs := [_]) 0 ty58 zp rfl rfl rfl ao1 rfl (by rw [ptrs_length]; simp only [List.length_cons, List.length_nil]; omega) ?_; refine JL_norm _ [osl _ _ _ _ _ (setAll (ptrs m) i [ptr (m.getD (ks.length - 1 - i) default)])] _ rfl rfl rfl ?_; rw [ptrs_set]; refine JL_nu 28 [osl _ _ _ _ _ _] [_, _, _, _] ?_; refine JE_nextA ?_; refine JA_step [2, 3] kr (by simp) ⟨⟨_, rfl, ?_⟩, ⟨_, rfl, ?_⟩, trivial⟩
   ·refine JL_m ?_; refine JL_nil ?_; refine JE_nA 3 ?_; refine JL_m ?_; refine JL_nil ?_; refine JE_nA 14 ?_; refine JL_idx (ks.length - 1 - i) sl57 rfl rfl om om (Reads.own 0 rfl) (by first | (rw [ptrs_length]; omega) | (rw [ptrs_length, List.length_set]; omega)) ?_; refine JL_nu 28 [osl _ _ _ _ _ _] [_, _, _, _] ?_; refine JE_nA 15 ?_; refine JL_storeE (vs := [_]) 0 ty58 zp rfl rfl rfl ao1 rfl (by rw [ptrs_length, List.length_set]; simp only [List.length_cons, List.length_nil]; omega) ?_; refine JL_norm _ [osl _ _ _ _ _ (setAll (ptrs (m.set i (m.getD (ks.length - 1 - i) default))) (ks.length - 1 - i) [ptr (m.getD i default)])] _ rfl rfl rfl ?_; rw [ptrs_set]; refine JL_nu 28 [osl _ _ _ _ _ _] [_, _, _, _] ?_; refine JE_nextA ?_; refine JA_end kr ?_; refine JE_block_normal ?_; refine JE_then ?_; refine JC_region ?_; refine JL_m ?_
    refine JL_add_to rfl rfl i6o ?_; refine JL_m ?_; refine JL_sub_to rfl rfl i6o ?_; rw [show ((ks.length : Int) - 1 - (i : Nat) - 1 : Int) = (ks.length : Int) - 1 - ((i + 1 : Nat) : Int) from by omega]; refine JL_a ?_; refine JL_a ?_; refine JL_nu 28 [osl _ _ _ _ _ _] [_, _, _, _] ?_; refine JE_nextS (i + 1, (m.set i (m.getD (ks.length - 1 - i) default)).set (ks.length - 1 - i) (m.getD i default)) kr ?_ ?_ kr ?_
    · exact ⟨by omega, by rw [List.length_set, List.length_set]; exact hm, hv.step hm om⟩
    · first | omega | (dsimp only; omega)
    · exact subset_app subset_nil (ssS (ssS ss0))
   ·refine JL_m ?_; refine JL_nil ?_; refine JE_nA 2 ?_; refine JL_m ?_; refine JL_nil ?_; refine JE_nA 14 ?_; refine JL_idx (ks.length - 1 - i) sl57 rfl rfl om om (Reads.own 0 rfl) (by first | (rw [ptrs_length]; omega) | (rw [ptrs_length, List.length_set]; omega)) ?_; refine JL_nu 28 [osl _ _ _ _ _ _] [_, _, _, _] ?_; refine JE_nA 15 ?_; refine JL_storeE (vs := [_]) 0 ty58 zp rfl rfl rfl ao1 rfl (by rw [ptrs_length, List.length_set]; simp only [List.length_cons, List.length_nil]; omega) ?_; refine JL_norm _ [osl _ _ _ _ _ (setAll (ptrs (m.set i (m.getD (ks.length - 1 - i) default))) (ks.length - 1 - i) [ptr (m.getD i default)])] _ rfl rfl rfl ?_; rw [ptrs_set]; refine JL_nu 28 [osl _ _ _ _ _ _] [_, _, _, _] ?_; refine JE_nextA ?_; refine JA_end kr ?_; refine JE_block_normal ?_; refine JE_then ?_; refine JC_region ?_; refine JL_m ?_
    refine JL_add_to rfl rfl i6o ?_; refine JL_m ?_; refine JL_sub_to rfl rfl i6o ?_; rw [show ((ks.length : Int) - 1 - (i : Nat) - 1 : Int) = (ks.length : Int) - 1 - ((i + 1 : Nat) : Int) from by omega]; refine JL_a ?_; refine JL_a ?_; refine JL_nu 28 [osl _ _ _ _ _ _] [_, _, _, _] ?_; refine JE_nextS (i + 1, (m.set i (m.getD (ks.length - 1 - i) default)).set (ks.length - 1 - i) (m.getD i default)) kr ?_ ?_ kr ?_
    · exact ⟨by omega, by rw [List.length_set, List.length_set]; exact hm, hv.step hm om⟩
    · first | omega | (dsimp only; omega)
    · exact subset_app subset_nil (ssS (ssS ss0))
  ·refine JL_normL [_] ⟨28, [(14, _), (15, _), (16, _), (17, _), (18, _), (19, _), (20, _), (21, _), (22, _), (23, _), (24, _), (25, _), (26, _)], _⟩ [osl _ _ _ _ _ _] [_, _, _] rfl rfl rfl rfl ?_; generalize vals (0 + 1 + 1) = x16; refine JL_storeE (vs := [_]) 0 ty58 zp rfl rfl rfl ao1 rfl (by rw [ptrs_length]; simp only [List.length_cons, List.length_nil]; omega) ?_; refine JL_norm _ [osl _ _ _ _ _ (setAll (ptrs m) i [ptr (m.getD (ks.length - 1 - i) default)])] _ rfl rfl rfl ?_; rw [ptrs_set]; refine JL_nu 28 [osl _ _ _ _ _ _] [_, _, _] ?_; refine JE_nA 2 ?_; refine JL_m ?_; refine JL_nil ?_; refine JE_nA 14 ?_; refine JL_idx (ks.length - 1 - i) sl57 rfl rfl om om (Reads.own 0 rfl) (by first | (rw [ptrs_length]; omega) | (rw [ptrs_length, List.length_set]; omega)) ?_; refine JL_nu 28 [osl _ _ _ _ _ _] [_, _, _] ?_; refine JE_nA 15 ?_
   refine JL_storeE (vs := [_]) 0 ty58 zp rfl rfl rfl ao1 rfl (by rw [ptrs_length, List.length_set]; simp only [List.length_cons, List.length_nil]; omega) ?_; refine JL_norm _ [osl _ _ _ _ _ (setAll (ptrs (m.set i (m.getD (ks.length - 1 - i) default))) (ks.length - 1 - i) [ptr (m.getD i default)])] _ rfl rfl rfl ?_; rw [ptrs_set]; refine JL_nu 28 [osl _ _ _ _ _ _] [_, _, _] ?_; refine JE_nextA ?_; refine JA_end kr ?_; refine JE_block_normal ?_; refine JE_then ?_; refine JC_region ?_; refine JL_m ?_; refine JL_add_to rfl rfl i6o ?_; refine JL_m ?_; refine JL_sub_to rfl rfl i6o ?_; rw [show ((ks.length : Int) - 1 - (i : Nat) - 1 : Int) = (ks.length : Int) - 1 - ((i + 1 : Nat) : Int) from by omega]; refine JL_a ?_; refine JL_a ?_; refine JL_nu 28 [osl _ _ _ _ _ _] [_, _, _] ?_; refine JE_nextS (i + 1, (m.set i (m.getD (ks.length - 1 - i) default)).set (ks.length - 1 - i) (m.getD i default)) kr ?_ ?_ kr ?_
   · exact ⟨by omega, by rw [List.length_set, List.length_set]; exact hm, hv.step hm om⟩
   · first | omega | (dsimp only; omega)
   · exact subset_app subset_nil (ssS ss0)
  ·refine JL_normL [_] ⟨28, [(14, _), (15, _), (16, _), (17, _), (18, _), (19, _), (20, _), (21, _), (22, _), (23, _), (24, _), (25, _), (26, _)], _⟩ [osl _ _ _ _ _ _] [_, _, _] rfl rfl rfl rfl ?_; generalize vals (0 + 1 + 1 + 1) = x17; refine JL_storeE (vs := [_]) 0 ty58 zp rfl rfl rfl ao1 rfl (by rw [ptrs_length]; simp only [List.length_cons, List.length_nil]; omega) ?_; refine JL_norm _ [osl _ _ _ _ _ (setAll (ptrs m) i [ptr (m.getD (ks.length - 1 - i) default)])] _ rfl rfl rfl ?_; rw [ptrs_set]; refine JL_nu 28 [osl _ _ _ _ _ _] [_, _, _] ?_; refine JE_nA 3 ?_; refine JL_m ?_; refine JL_nil ?_; refine JE_nA 14 ?_; refine JL_idx (ks.length - 1 - i) sl57 rfl rfl om om (Reads.own 0 rfl) (by first | (rw [ptrs_length]; omega) | (rw [ptrs_length, List.length_set]; omega)) ?_; refine JL_nu 28 [osl _ _ _ _ _ _] [_, _, _] ?_; refine JE_nA 15 ?_
   refine JL_storeE (vs := [_]) 0 ty58 zp rfl rfl rfl ao1 rfl (by rw [ptrs_length, List.length_set]; simp only [List.length_cons, List.length_nil]; omega) ?_; refine JL_norm _ [osl _ _ _ _ _ (setAll (ptrs (m.set i (m.getD (ks.length - 1 - i) default))) (ks.length - 1 - i) [ptr (m.getD i default)])] _ rfl rfl rfl ?_; rw [ptrs_set]; refine JL_nu 28 [osl _ _ _ _ _ _] [_, _, _] ?_; refine JE_nextA ?_; refine JA_end kr ?_; refine JE_block_normal ?_; refine JE_then ?_; refine JC_region ?_; refine JL_m ?_; refine JL_add_to rfl rfl i6o ?_; refine JL_m ?_; refine JL_sub_to rfl rfl i6o ?_; rw [show ((ks.length : Int) - 1 - (i : Nat) - 1 : Int) = (ks.length : Int) - 1 - ((i + 1 : Nat) : Int) from by omega]; refine JL_a ?_; refine JL_a ?_; refine JL_nu 28 [osl _ _ _ _ _ _] [_, _, _] ?_; refine JE_nextS (i + 1, (m.set i (m.getD (ks.length - 1 - i) default)).set (ks.length - 1 - i) (m.getD i default)) kr ?_ ?_ kr ?_
   · exact ⟨by omega, by rw [List.length_set, List.length_set]; exact hm, hv.step hm om⟩
   · first | omega | (dsimp only; omega)
   · exact subset_app subset_nil (ssS ss0)
  ·refine JL_normL [_] ⟨28, [(14, _), (15, _), (16, _), (17, _), (18, _), (19, _), (20, _), (21, _), (22, _), (23, _), (24, _), (25, _), (26, _)], _⟩ [osl _ _ _ _ _ _] [_, _] rfl rfl rfl rfl ?_; refine JL_storeE (vs := [_]) 0 ty58 zp rfl rfl rfl ao1 rfl (by rw [ptrs_length]; simp only [List.length_cons, List.length_nil]; omega) ?_; refine JL_norm _ [osl _ _ _ _ _ (setAll (ptrs m) i [ptr (m.getD (ks.length - 1 - i) default)])] _ rfl rfl rfl ?_; rw [ptrs_set]; refine JL_nu 28 [osl _ _ _ _ _ _] [_, _] ?_; refine JE_nA 14 ?_; refine JL_idx (ks.length - 1 - i) sl57 rfl rfl om om (Reads.own 0 rfl) (by first | (rw [ptrs_length]; omega) | (rw [ptrs_length, List.length_set]; omega)) ?_; refine JL_nu 28 [osl _ _ _ _ _ _] [_, _] ?_; refine JE_nA 15 ?_; refine JL_storeE (vs := [_]) 0 ty58 zp rfl rfl rfl ao1 rfl (by rw [ptrs_length, List.length_set]; simp only [List.length_cons, List.length_nil]; omega) ?_
   refine JL_norm _ [osl _ _ _ _ _ (setAll (ptrs (m.set i (m.getD (ks.length - 1 - i) default))) (ks.length - 1 - i) [ptr (m.getD i default)])] _ rfl rfl rfl ?_; rw [ptrs_set]; refine JL_nu 28 [osl _ _ _ _ _ _] [_, _] ?_; refine JE_nextA ?_; refine JA_end kr ?_; refine JE_block_normal ?_; refine JE_then ?_; refine JC_region ?_; refine JL_m ?_; refine JL_add_to rfl rfl i6o ?_; refine JL_m ?_; refine JL_sub_to rfl rfl i6o ?_; rw [show ((ks.length : Int) - 1 - (i : Nat) - 1 : Int) = (ks.length : Int) - 1 - ((i + 1 : Nat) : Int) from by omega]; refine JL_a ?_; refine JL_a ?_; refine JL_nu 28 [osl _ _ _ _ _ _] [_, _] ?_; refine JE_nextS (i + 1, (m.set i (m.getD (ks.length - 1 - i) default)).set (ks.length - 1 - i) (m.getD i default)) kr ?_ ?_ kr ?_
   · exact ⟨by omega, by rw [List.length_set, List.length_set]; exact hm, hv.step hm om⟩
   · first | omega | (dsimp only; omega)
   · exact subset_app subset_nil ss0
 ·refine JL_dv 28 ?_; refine JC_false rfl ?_; refine JC_exit ?_; refine JE_then_exit ?_; refine JE_nextS_exit ?_; refine JE_block_exit ?_
  have hrv := hv.done hm om
  subst hrv; refine JE_endO (vs := []) [] Tryz.results73 rfl ?_ ?_ am am
  · exact ⟨rfl, rfl, rfl⟩
  · exact all_nil

theorem rev_con {ad : Option Addr} {c : Nat} {ks : List AT} (hl : ks.length ≤ 1000) :
    ConA Tryz.prog 65 [.slice ad ks.length c] [vCells ad (ptrs ks)]
      (fun v φo => ∃ (ad3 : Option Addr) (c3 : Nat), v = .slice ad3 ks.reverse.length c3 ∧ (ks.reverse.length ≤ c3 ∧ c3 ≤ 9223372036854775807) ∧ φo = [vCells ad3 (ptrs ks.reverse)]) := by
 refine ConA_of Tryz.func65 rfl 9 (_ :: rp 8) rfl rfl ?_; intro w0; refine JC_st [] [_] ?_; refine JC_sr ?_; refine JL_a ?_; refine JL_dv 9 ?_; refine JC_sr ?_; refine JL_m ?_; refine JL_callO0 (AsksO.cons am AsksO.nil) (ncl_con hl) rfl ca60 ⟨rfl, rfl⟩ ?_; rintro _ _ _ ⟨ad5, c5, rfl, hc5, rfl, rfl⟩; refine JL_norm _ [osl _ _ _ _ _ _] [_] rfl rfl rfl ?_; refine JL_a ?_; refine JL_du 9 [osl _ _ _ _ _ _] [_] ?_; refine JC_sr ?_; refine JL_m ?_; refine JL_callOL (σ1 := []) (nrv_con hl) rfl ca73 ⟨rfl, rfl⟩ ?_; rintro _ _ _ ⟨rfl, rfl, rfl⟩; refine JL_norm _ [osl _ _ _ _ _ _] [_] rfl rfl rfl ?_; refine JL_du 9 [osl _ _ _ _ _ _] [_] ?_; refine JC_sr ?_; refine JL_m ?_; refine JL_a ?_; refine JL_dv 9 ?_; refine JC_ret ?_; refine JE_give 0 rfl ?_; refine JE_norm _ [] [_, _] rfl rfl rfl ?_; refine JE_ret (vs := [_]) [vCells ad5 (ptrs ks.reverse)] Tryz.results65 ⟨rfl, rfl⟩ ?_ ?_
 · exact ⟨ad5, c5, by rw [List.length_reverse]; rfl, by rw [List.length_reverse]; exact hc5, rfl⟩
 · exact (all_cons am all_nil)

set_option maxHeartbeats 2000000 in
theorem sorted_con {mb : Nat} {R : List (Int × Bool)} (hR : (R.map (·.1)).Nodup) {b n : Nat} {q : Bool} {ad : Option Addr} {cap : Nat} {ks : List AT} (hf : Fit (.mk b n q ad cap ks)) :
    ConO Tryz.prog 62 [.map (some mb), nptr b] [] [vMap mb (mE iv bv R 0) R.length, vA (.mk b n q ad cap ks)]
      (fun v rout φo => ∃ (b4 b5 : Nat) (a0 a1 a2 : Option Addr) (c0 c1 c2 : Nat), v = .agg #[.slice a0 (byA (mS R) 0 (ks)).length c0, .slice a1 (byA (mS R) 1 (ks)).length c1, .slice a2 (byA (mS R) 2 (ks)).length c2] ∧ ((byA (mS R) 0 (ks)).length ≤ c0 ∧ (byA (mS R) 1 (ks)).length ≤ c1 ∧ (byA (mS R) 2 (ks)).length ≤ c2) ∧ rout = [box b4 98 [.slice a0 (byA (mS R) 0 (ks)).length c0, .slice a1 (byA (mS R) 1 (ks)).length c1, .slice a2 (byA (mS R) 2 (ks)).length c2], box b5 98 [.slice a0 (byA (mS R) 0 (ks)).length c0, .slice a1 (byA (mS R) 1 (ks)).length c1, .slice a2 (byA (mS R) 2 (ks)).length c2], osl a0 (byA (mS R) 0 (ks)).length c0 58 1 (ptrs (byA (mS R) 0 (ks))), osl a1 (byA (mS R) 1 (ks)).length c1 58 1 (ptrs (byA (mS R) 1 (ks))), osl a2 (byA (mS R) 2 (ks)).length c2 58 1 (ptrs (byA (mS R) 2 (ks)))] ∧ φo = []) := by
 refine ConO_of Tryz.func62 rfl 31 (_ :: _ :: rp 29) rfl rfl ?_; intro w0 p0 p1; refine JC_st [] [_, _, _, _] ?_; refine JC_seq ?_
 have hcp := hf.cap
 have hln := hf.len
 refine JC_atOpen (f := true) (b := b) (n := n) (q := q) (ad := ad) (cap := cap) (ks := ks) am ?_; refine JC_region ?_; refine JL_alloc z98 (fun b4 => ?_); refine JL_du 31 [box _ _ [_, _, _]] [_, _, _, _, _, _, _] ?_; refine JC_sr ?_; refine JL_alloc z98 (fun b5 => ?_); refine JL_du 31 [box _ _ [_, _, _], box _ _ [_, _, _]] [_, _, _, _, _, _, _] ?_; refine JC_seq ?_; refine JC_sr ?_; refine JL_m ?_; refine JL_nilCheckE rfl ?_; refine JL_fieldAddrE fo60_2 rfl rdg (show 0 < (ncells n q ad ks.length cap).length from Nat.zero_lt_succ _) ?_; refine JL_loadE ty57 rfl rdg rfl ?_; refine JL_len sl57 rfl ?_; refine JL_m ?_; refine JL_dv 31 ?_; refine JC_block ?_; refine JC_addNil 58 1 ?_; refine JC_nw [box _ _ [_, _, _], box _ _ [_, _, _], osl _ _ _ _ _ _] [_, _, _, _, _, _, _] ?_; refine JC_addNil 58 1 ?_; refine JC_nw [box _ _ [_, _, _], box _ _ [_, _, _], osl _ _ _ _ _ _, osl _ _ _ _ _ _] [_, _, _, _, _, _, _] ?_; refine JC_addNil 58 1 ?_; refine JC_nw [box _ _ [_, _, _], box _ _ [_, _, _], osl _ _ _ _ _ _, osl _ _ _ _ _ _, osl _ _ _ _ _ _] [_, _, _, _, _, _, _] ?_
 refine JC_loopS ((Nat) × (Option Addr) × (Nat) × (Option Addr) × (Nat) × (Option Addr) × (Nat)) (fun (i, a0, c0, a1, c1, a2, c2) => i ≤ ks.length ∧ ((byA (mS R) 0 (ks.take i)).length ≤ c0 ∧ (byA (mS R) 1 (ks.take i)).length ≤ c1 ∧ (byA (mS R) 2 (ks.take i)).length ≤ c2)) (fun (i, a0, c0, a1, c1, a2, c2) => ks.length - i) (fun u (i, a0, c0, a1, c1, a2, c2) => (rn 7 (sc u 7 2 (rn 5 (some (.int .i64 (i : Nat)) :: sc u 15 15 []))))) (fun (i, a0, c0, a1, c1, a2, c2) => (none :: some (box b5 98 [.slice a0 (byA (mS R) 0 (ks.take i)).length c0, .slice a1 (byA (mS R) 1 (ks.take i)).length c1, .slice a2 (byA (mS R) 2 (ks.take i)).length c2]) :: some (osl a0 (byA (mS R) 0 (ks.take i)).length c0 58 1 (ptrs (byA (mS R) 0 (ks.take i)))) :: some (osl a1 (byA (mS R) 1 (ks.take i)).length c1 58 1 (ptrs (byA (mS R) 1 (ks.take i)))) :: [some (osl a2 (byA (mS R) 2 (ks.take i)).length c2 58 1 (ptrs (byA (mS R) 2 (ks.take i))))])) (fun (i, a0, c0, a1, c1, a2, c2) => []) (0, none, 0, none, 0, none, 0) kr ?_ kr ?_ ?_
 · exact ⟨Nat.zero_le _, Nat.le_refl _, Nat.le_refl _, Nat.le_refl _⟩
 · exact subset_nil
 intro u i hC; obtain ⟨i, a0, c0, a1, c1, a2, c2⟩ := i; obtain ⟨hi, hc0, hc1, hc2⟩ := hC; refine JC_nm 31 [box _ _ [_, _, _], box _ _ [_, _, _], osl _ _ _ _ _ _, osl _ _ _ _ _ _, osl _ _ _ _ _ _] [_, _, _, _, _, _, _] ?_
 have hl0 := byA_len (mS R) 0 (ks.take i)
 have hl1 := byA_len (mS R) 1 (ks.take i)
 have hl2 := byA_len (mS R) 2 (ks.take i)
 rw [List.length_take] at hl0 hl1 hl2; refine JC_sr ?_; refine JL_lss rfl rfl ?_; refine JL_split (fun h15 => ?_) (fun h15 => ?_)
 ·refine JL_dv 31 ?_; refine JC_seq ?_; refine JC_true rfl ?_; refine JC_skip ?_; refine JE_then ?_; refine JC_seq ?_; refine JC_block ?_; refine JC_sr ?_; refine JL_idx i sl57 rfl rfl rfl om (by first | exact Reads.view am | (exact Reads.own 2 rfl) | (exact Reads.own 3 rfl) | (exact Reads.own 4 rfl)) (by rw [ptrs_length]; omega) ?_; refine JL_loadE ty58 rfl (by first | exact Reads.view am | (exact Reads.own 2 rfl) | (exact Reads.own 3 rfl) | (exact Reads.own 4 rfl)) (ptrs_get om) ?_; refine JL_a ?_; refine JL_dv 31 ?_; refine JC_sr ?_; refine JL_m ?_; refine JL_m ?_; refine JL_callF' (Asks.cons (by first | exact holds_of_mem am | (exact holds_of_own 2 rfl) | (exact holds_of_own 3 rfl) | (exact holds_of_own 4 rfl)) (Asks.cons (by first | exact holds_of_mem am | (exact holds_of_own 2 rfl) | (exact holds_of_own 3 rfl) | (exact holds_of_own 4 rfl)) Asks.nil)) (conAs (state_con hR (ks.getD i default) (hf.kids _ (at_mem om))) (at_mem om)) rfl ca59 ⟨rfl, rfl, rfl⟩ ?_; rintro _ _ ⟨rfl, rfl⟩; refine JL_a ?_
  refine JL_du 31 [box _ _ [_, _, _], box _ _ [_, _, _], osl _ _ _ _ _ _, osl _ _ _ _ _ _, osl _ _ _ _ _ _] [_, _, _, _, _, _, _] ?_
  rcases (by have := st_le (mS R) (er (ks.getD i default)); omega : st (mS R) (er (ks.getD i default)) = 0 ∨ st (mS R) (er (ks.getD i default)) = 1 ∨ st (mS R) (er (ks.getD i default)) = 2) with hs | hs | hs
  ·have e0 := byA_same (S := mS R) (s := 0) (l := ks) (i := i) om hs
   have e1 := byA_other (S := mS R) (s := 1) (l := ks) (i := i) om (by rw [hs]; omega)
   have e2 := byA_other (S := mS R) (s := 2) (l := ks) (i := i) om (by rw [hs]; omega)
   refine JC_region ?_; refine JL_m ?_; refine JL_m ?_; refine JL_idxArr 0 ar98 rfl rfl (by rw [hs]) (by decide) ?_; refine JL_load 1 ty57 rfl rfl rfl ?_; refine JL_m ?_; refine JL_build1 sl57 rfl rfl (fun g26 => ?_); refine JL_norm _ [box _ _ [_, _, _], box _ _ [_, _, _], osl _ _ _ _ _ _, osl _ _ _ _ _ _, osl _ _ _ _ _ _, osl _ _ _ _ _ ([ptr (ks.getD i default)])] [_, _, _, _, _, _, _] rfl rfl rfl ?_; refine JL_append (news := [ptr (ks.getD i default)]) 2 sl57 rfl (by decide) rfl rfl rfl rfl (Reads.own 5 rfl) ao1 om om (fun ad27 cap27 hc27 => ?_); refine JL_dropAt 5 ?_; refine JL_norm _ [box _ _ [_, _, _], box _ _ [_, _, _], osl _ _ _ _ _ _, osl _ _ _ _ _ _, osl _ _ _ _ _ _] [_, _, _, _, _, _, _] rfl rfl rfl ?_; rw [ptrs_snoc, show (byA (mS R) 0 (ks.take i)).length + 1 = (byA (mS R) 0 (ks.take (i + 1))).length from by rw [e0, List.length_append]; rfl, ← e0]; refine JL_idxArr 0 ar98 rfl rfl (by rw [hs]) (by decide) ?_; refine JL_store (vs := [_]) 1 ty57 rfl rfl rfl ao1 rfl bleq ?_; rw [← e1, ← e2]
   refine JL_nu 31 [box _ _ [_, _, _], box _ _ [_, _, _], osl _ _ _ _ _ _, osl _ _ _ _ _ _, osl _ _ _ _ _ _] [_, _, _, _, _, _, _] ?_; refine JE_block_normal ?_; refine JE_then ?_; refine JC_region ?_; refine JL_add_to rfl rfl i6o ?_; refine JL_m ?_; refine JL_nv 31 ?_; refine JE_nextS (i + 1, ad27, cap27, a1, c1, a2, c2) kr ?_ ?_ kr ?_
   · exact ⟨by omega, by first | (rw [e0, List.length_append, List.length_singleton]; omega) | (rw [e0]; omega), by first | (rw [e1, List.length_append, List.length_singleton]; omega) | (rw [e1]; omega), by first | (rw [e2, List.length_append, List.length_singleton]; omega) | (rw [e2]; omega)⟩
   · first | omega | (dsimp only; omega)
   · exact subset_app subset_nil ss0
  ·have e0 := byA_other (S := mS R) (s := 0) (l := ks) (i := i) om (by rw [hs]; omega)
   have e1 := byA_same (S := mS R) (s := 1) (l := ks) (i := i) om hs
   have e2 := byA_other (S := mS R) (s := 2) (l := ks) (i := i) om (by rw [hs]; omega)
   refine JC_region ?_; refine JL_m ?_; refine JL_m ?_; refine JL_idxArr 1 ar98 rfl rfl (by rw [hs]) (by decide) ?_; refine JL_load 1 ty57 rfl rfl rfl ?_; refine JL_m ?_; refine JL_build1 sl57 rfl rfl (fun g26 => ?_); refine JL_norm _ [box _ _ [_, _, _], box _ _ [_, _, _], osl _ _ _ _ _ _, osl _ _ _ _ _ _, osl _ _ _ _ _ _, osl _ _ _ _ _ ([ptr (ks.getD i default)])] [_, _, _, _, _, _, _] rfl rfl rfl ?_; refine JL_append (news := [ptr (ks.getD i default)]) 3 sl57 rfl (by decide) rfl rfl rfl rfl (Reads.own 5 rfl) ao1 om om (fun ad27 cap27 hc27 => ?_); refine JL_dropAt 5 ?_; refine JL_norm _ [box _ _ [_, _, _], box _ _ [_, _, _], osl _ _ _ _ _ _, osl _ _ _ _ _ _, osl _ _ _ _ _ _] [_, _, _, _, _, _, _] rfl rfl rfl ?_; rw [ptrs_snoc, show (byA (mS R) 1 (ks.take i)).length + 1 = (byA (mS R) 1 (ks.take (i + 1))).length from by rw [e1, List.length_append]; rfl, ← e1]; refine JL_idxArr 1 ar98 rfl rfl (by rw [hs]) (by decide) ?_; refine JL_store (vs := [_]) 1 ty57 rfl rfl rfl ao1 rfl bleq ?_; rw [← e0, ← e2]
   refine JL_nu 31 [box _ _ [_, _, _], box _ _ [_, _, _], osl _ _ _ _ _ _, osl _ _ _ _ _ _, osl _ _ _ _ _ _] [_, _, _, _, _, _, _] ?_; refine JE_block_normal ?_; refine JE_then ?_; refine JC_region ?_; refine JL_add_to rfl rfl i6o ?_; refine JL_m ?_; refine JL_nv 31 ?_; refine JE_nextS (i + 1, a0, c0, ad27, cap27, a2, c2) kr ?_ ?_ kr ?_
   · exact ⟨by omega, by first | (rw [e0, List.length_append, List.length_singleton]; omega) | (rw [e0]; omega), by first | (rw [e1, List.length_append, List.length_singleton]; omega) | (rw [e1]; omega), by first | (rw [e2, List.length_append, List.length_singleton]; omega) | (rw [e2]; omega)⟩
   · first | omega | (dsimp only; omega)
   · exact subset_app subset_nil ss0
  ·have e0 := byA_other (S := mS R) (s := 0) (l := ks) (i := i) om (by rw [hs]; omega)
   have e1 := byA_other (S := mS R) (s := 1) (l := ks) (i := i) om (by rw [hs]; omega)
   have e2 := byA_same (S := mS R) (s := 2) (l := ks) (i := i) om hs
   refine JC_region ?_; refine JL_m ?_; refine JL_m ?_; refine JL_idxArr 2 ar98 rfl rfl (by rw [hs]) (by decide) ?_; refine JL_load 1 ty57 rfl rfl rfl ?_; refine JL_m ?_; refine JL_build1 sl57 rfl rfl (fun g26 => ?_); refine JL_norm _ [box _ _ [_, _, _], box _ _ [_, _, _], osl _ _ _ _ _ _, osl _ _ _ _ _ _, osl _ _ _ _ _ _, osl _ _ _ _ _ ([ptr (ks.getD i default)])] [_, _, _, _, _, _, _] rfl rfl rfl ?_; refine JL_append (news := [ptr (ks.getD i default)]) 4 sl57 rfl (by decide) rfl rfl rfl rfl (Reads.own 5 rfl) ao1 om om (fun ad27 cap27 hc27 => ?_); refine JL_dropAt 5 ?_; refine JL_norm _ [box _ _ [_, _, _], box _ _ [_, _, _], osl _ _ _ _ _ _, osl _ _ _ _ _ _, osl _ _ _ _ _ _] [_, _, _, _, _, _, _] rfl rfl rfl ?_; rw [ptrs_snoc, show (byA (mS R) 2 (ks.take i)).length + 1 = (byA (mS R) 2 (ks.take (i + 1))).length from by rw [e2, List.length_append]; rfl, ← e2]; refine JL_idxArr 2 ar98 rfl rfl (by rw [hs]) (by decide) ?_; refine JL_store (vs := [_]) 1 ty57 rfl rfl rfl ao1 rfl bleq ?_; rw [← e0, ← e1]
   refine JL_nu 31 [box _ _ [_, _, _], box _ _ [_, _, _], osl _ _ _ _ _ _, osl _ _ _ _ _ _, osl _ _ _ _ _ _] [_, _, _, _, _, _, _] ?_; refine JE_block_normal ?_; refine JE_then ?_; refine JC_region ?_; refine JL_add_to rfl rfl i6o ?_; refine JL_m ?_; refine JL_nv 31 ?_; refine JE_nextS (i + 1, a0, c0, a1, c1, ad27, cap27) kr ?_ ?_ kr ?_
   · exact ⟨by omega, by first | (rw [e0, List.length_append, List.length_singleton]; omega) | (rw [e0]; omega), by first | (rw [e1, List.length_append, List.length_singleton]; omega) | (rw [e1]; omega), by first | (rw [e2, List.length_append, List.length_singleton]; omega) | (rw [e2]; omega)⟩
   · first | omega | (dsimp only; omega)
   · exact subset_app subset_nil ss0
 ·refine JL_dv 31 ?_; refine JC_seq ?_; refine JC_false rfl ?_; refine JC_exit ?_; refine JE_then_exit ?_; refine JE_nextS_exit ?_; refine JE_block_exit ?_; refine JE_then ?_; refine JC_sr ?_; refine JL_loadA (vs := [_, _, _]) 1 ty98 rfl rfl ⟨rfl, rfl, rfl, trivial⟩ ?_; refine JL_store (vs := [_, _, _]) 0 ty98 rfl rfl rfl ao3 rfl bleq ?_; refine JL_du 31 [box _ _ [_, _, _], box _ _ [_, _, _], osl _ _ _ _ _ _, osl _ _ _ _ _ _, osl _ _ _ _ _ _] [_, _, _, _, _, _, _] ?_; refine JC_ret ?_; refine JE_retO (vs := [_]) [] Tryz.results62 ⟨RV.cell (vs := [_, _, _]) 0 ty98 rfl rfl ⟨rfl, rfl, rfl, trivial⟩, rfl⟩ ?_ ?_ am am
  · rw [List.take_of_length_le (show ks.length ≤ i by omega)] at *; exact ⟨b4, b5, a0, a1, a2, c0, c1, c2, rfl, ⟨hc0, hc1, hc2⟩, rfl, rfl⟩
  · exact all_nil

theorem isnil_con {p : Option Addr} :
    ConF Tryz.prog 101 [.pointer p] []
      (fun v φo => v = .bool p.isNone ∧ φo = []) := by
 refine ConF_of Tryz.func101 rfl 5 (_ :: rp 4) rfl rfl ?_; intro w0; refine JC_st [] [] ?_; refine JC_sr ?_; refine JL_a ?_; refine JL_dv 5 ?_; refine JC_sr ?_; refine JL_m ?_; refine JL_eqlPtr pt58 rfl rfl ?_; refine JL_a ?_; refine JL_dv 5 ?_; refine JC_ret ?_; refine JE_ret (vs := [_]) [] Tryz.results101 ⟨rfl, rfl⟩ ?_ ?_
 · exact ⟨rfl, rfl⟩
 · exact all_nil

end Go.Fw.K
