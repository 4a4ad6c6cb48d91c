/- Walks through functions of the given program: each meets its contract. (Printed by a program of this repo.) -/
import Derived.Test.YtgnljjdcbfijnaaDoorS18
import Derived.Test.YtgnljjdcbfijnaaDoorSC
import Derived.Test.YtgnljjdcbfijnaaDoorStdM
import Derived.Test.YtgnljjdcbfijnaaDoorProg
namespace Go.Fw.S19
open Go Go.RowKit Go.Proofs Go.Nat9 Go.Fw
attribute [local irreducible] JC JL JE
theorem ca10 : callable Tryd.prog 10 = true := by kernel_rfl
theorem ca31 : callable Tryd.prog 31 = true := by kernel_rfl
theorem ca48 : callable Tryd.prog 48 = true := by kernel_rfl
theorem ca49 : callable Tryd.prog 49 = true := by kernel_rfl
theorem ca50 : callable Tryd.prog 50 = true := by kernel_rfl
theorem sl54 : slOf Tryd.prog 54 = some (3, 1, 8, [.int .i64 0]) := by kernel_rfl
theorem sl95 : slOf Tryd.prog 95 = some (26, 1, 8, [.int .i64 0]) := by kernel_rfl
theorem ty3 : tyOf Tryd.prog 3 = some (false, 1) := by kernel_rfl
end Go.Fw.S19
namespace Go.Fw.K
open Go Go.RowKit Go.Proofs Go.Nat9 Go.Fw Go.Fw.S19
attribute [local irreducible] JC JL JE

set_option maxHeartbeats 1000000 in
theorem icommon_con {tol m : Int} {ad0 : Option Addr} {c0 : Nat} {L : List Int} (hc0 : L.length ≤ c0) :
    ConF Tryd.prog 27 [.slice ad0 L.length c0, .int .i64 tol, .int .i64 m] [vCells ad0 (i64s L)]
      (SPS (comR L tol m) (comE L tol m)) := by
  refine ConF_of Tryd.func27 rfl 56 _ rfl rfl ?_
  intro w0
  refine JC_norm ⟨56, [], [_, _, _, _, _, _, _, _, _, _, _, _, _, _, _, _, _, _, _, _, _, _, _, _, _, _, _, _, _, _, _, _, _, _, _, _, _, _, _, _, _, _, _, _, _, _, _, _, _, _, _, _, _, _, _, _]⟩ [] [_] rfl rfl rfl ?_
  refine JC_seq ?_
  refine JC_region ?_
  refine JL_assign rfl ?_
  refine JL_assign rfl ?_
  refine JL_done_up 56 [] [_] rfl rfl (by simp only [nrmF]; rfl) rfl rfl ?_
  refine JC_seq ?_
  refine JC_seq ?_
  refine JC_region ?_
  refine JL_move rfl ?_
  refine JL_callF' (Asks.cons (holds_of_mem (by repeat (first | with_reducible exact mm0 | refine mmS ?_))) Asks.nil) (icheck_con) rfl ca48 ⟨rfl, rfl⟩ ?_
  rintro _ _ ⟨rfl, rfl⟩
  refine JL_move rfl ?_
  refine JL_move rfl ?_
  refine JL_callF' Asks.nil (ilim_con) rfl ca31 ⟨rfl, rfl, rfl⟩ ?_
  rintro _ _ ⟨rfl, rfl⟩
  refine JL_buildN (cs0 := [.int .i64 0, .int .i64 0]) (cs := [_, _]) [(0, [_]), (1, [_])] sl95 (by kernel_rfl) ⟨⟨rfl, _, rfl, rfl⟩, ⟨rfl, _, rfl, rfl⟩, rfl⟩ rfl rfl rfl rfl (fun g20 => ?_)
  refine JL_norm _ [osl _ _ _ _ _ (i64s ([chkE L, limE tol m]))] [_] rfl rfl rfl ?_
  refine JL_callF' (Asks.cons (by first | exact holds_of_mem (by repeat (first | with_reducible exact mm0 | refine mmS ?_)) | (exact holds_of_own 0 rfl)) Asks.nil) (or_con (L := [chkE L, limE tol m]) (Nat.le_of_ble_eq_true rfl)) rfl ca49 ⟨rfl, rfl⟩ ?_
  rintro _ _ ⟨rfl, rfl⟩
  refine JL_assign rfl ?_
  refine JL_done_up 56 [osl _ _ _ _ _ _] [_] rfl rfl (by simp only [nrmF]; rfl) rfl rfl ?_
  refine JC_seq ?_
  refine JC_region ?_
  refine JL_move rfl ?_
  refine JL_neq rfl rfl ?_
  refine JL_split (fun h23 => ?_) (fun h23 => ?_)
  · refine JL_done_up 56 [osl _ _ _ _ _ _] [_] rfl rfl (by simp only [nrmF]; rfl) rfl rfl ?_
    refine JC_true rfl ?_
    refine JC_seq ?_
    refine JC_region ?_
    refine JL_move rfl ?_
    refine JL_assign rfl ?_
    refine JL_assign rfl ?_
    refine JL_done_up 56 [osl _ _ _ _ _ _] [_] rfl rfl (by simp only [nrmF]; rfl) rfl rfl ?_
    refine JC_ret ?_
    refine JE_then_ret ?_
    have he : comE L tol m = firstNZ [chkE L, limE tol m] := first_no h23
    refine JE_sesNil ?_
    refine JE_ret (vs := [_, _]) [vCells none (scells []), vSes []] Tryd.results27 ⟨rfl, rfl, rfl⟩ ?_ ?_
    · rw [comR_no (by rw [he]; first | assumption | decide), he]; exact ⟨none, 0, [], rfl, rfl, rfl⟩
    · exact (all_cons (by repeat (first | with_reducible exact mm0 | refine mmS ?_)) (all_cons (by repeat (first | with_reducible exact mm0 | refine mmS ?_)) all_nil))
  · refine JL_done_up 56 [osl _ _ _ _ _ _] [_] rfl rfl (by simp only [nrmF]; rfl) rfl rfl ?_
    refine JC_false rfl ?_
    refine JC_skip ?_
    refine JE_then ?_
    refine JC_seq ?_
    refine JC_seq ?_
    obtain ⟨hck, hlm⟩ := first_ok (Classical.byContradiction h23)
    obtain ⟨hn64, hws⟩ := chkE_zero hck
    refine JC_region ?_
    refine JL_move rfl ?_
    refine JL_len sl54 rfl ?_
    refine JL_eql rfl rfl ?_
    refine JL_split (fun h27 => ?_) (fun h27 => ?_)
    · refine JL_done_up 56 [osl _ _ _ _ _ _] [_] rfl rfl (by simp only [nrmF]; rfl) rfl rfl ?_
      refine JC_true rfl ?_
      refine JC_seq ?_
      refine JC_region ?_
      refine JL_assign rfl ?_
      refine JL_assign rfl ?_
      refine JL_done_up 56 [osl _ _ _ _ _ _] [_] rfl rfl (by simp only [nrmF]; rfl) rfl rfl ?_
      refine JC_ret ?_
      refine JE_then_ret ?_
      have he : comE L tol m = 7 := comE_nil hck hlm (by omega)
      refine JE_sesNil ?_
      refine JE_ret (vs := [_, _]) [vCells none (scells []), vSes []] Tryd.results27 ⟨rfl, rfl, rfl⟩ ?_ ?_
      · rw [comR_no (by rw [he]; first | assumption | decide), he]; exact ⟨none, 0, [], rfl, rfl, rfl⟩
      · exact (all_cons (by repeat (first | with_reducible exact mm0 | refine mmS ?_)) (all_cons (by repeat (first | with_reducible exact mm0 | refine mmS ?_)) all_nil))
    · refine JL_done_up 56 [osl _ _ _ _ _ _] [_] rfl rfl (by simp only [nrmF]; rfl) rfl rfl ?_
      refine JC_false rfl ?_
      refine JC_skip ?_
      refine JE_then ?_
      refine JC_seq ?_
      refine JC_region ?_
      refine JL_move rfl ?_
      refine JL_idx 0 sl54 rfl rfl rfl (by omega) (by first | exact Reads.view (by repeat (first | with_reducible exact mm0 | refine mmS ?_)) | (exact Reads.own 0 rfl)) (by first | (rw [u32s_length]; omega) | (rw [i64s_length]; omega)) ?_
      refine JL_loadE ty3 rfl (by first | exact Reads.view (by repeat (first | with_reducible exact mm0 | refine mmS ?_)) | (exact Reads.own 0 rfl)) (i64s_get (by omega)) ?_
      refine JL_move rfl ?_
      refine JL_move rfl ?_
      refine JL_callF' Asks.nil (ispans_con) rfl ca10 ⟨rfl, rfl, rfl, rfl⟩ ?_
      rintro _ _ ⟨ad34, c34, l34, rfl, hl34, rfl⟩
      refine JL_move rfl ?_
      refine JL_extract rfl rfl ?_
      refine JL_extract rfl rfl ?_
      refine JL_assign rfl ?_
      refine JL_assign rfl ?_
      refine JL_done_up 56 [osl _ _ _ _ _ _] [_, _, _] rfl rfl (by simp only [nrmF]; rfl) rfl rfl ?_
      refine JC_seq ?_
      refine JC_seq ?_
      refine JC_region ?_
      refine JL_move rfl ?_
      refine JL_slice 1 L.length c0 sl54 rfl (.some rfl rfl) .none .none (.inl rfl) (by omega) (by omega) (by omega) ?_
      refine JL_viewSubI (ad := ad0) (L := L) c0 1 L.length (by repeat (first | with_reducible exact mm0 | refine mmS ?_)) hc0 ?_
      rw [List.take_length]
      refine JL_len sl54 rfl ?_
      refine JL_move rfl ?_
      refine JL_done_up 56 [osl _ _ _ _ _ _] [_, _, _, _] rfl rfl (by simp only [nrmF]; rfl) rfl rfl ?_
      refine JC_block ?_
      refine JC_loopS ((Nat) × (List Se) × (Option Addr) × (Nat)) (fun (i, r, ad, cap) => i + 1 ≤ L.length ∧ r.map Se.qq = comL L tol m i) (fun (i, r, ad, cap) => L.length - i) (fun u (i, r, ad, cap) => [none, none, none, none, none, none, none, none, none, some (.slice ad r.length cap), none, none, some (u 12), some (u 13), some (u 14), none, none, none, none, none, none, none, none, none, none, none, none, none, none, none, none, none, none, none, none, none, none, none, none, none, some (.int .i64 (i : Nat)), some (u 41), some (u 42), some (u 43), some (u 44), some (u 45), some (u 46), some (u 47), some (u 48), some (u 49), some (u 50), some (u 51), some (u 52), some (u 53), some (u 54), none]) (fun (i, r, ad, cap) => [none]) (fun (i, r, ad, cap) => [(true, vCells ad (scells r)), (true, vSes r)]) (0, l34, ad34, c34) (by kernel_rfl) ?_ (by kernel_rfl) ?_ ?_
      · exact ⟨by omega, hl34⟩
      · exact (subset_cons (by repeat (first | with_reducible exact mm0 | refine mmS ?_)) (subset_cons (by repeat (first | with_reducible exact mm0 | refine mmS ?_)) subset_nil))
      intro u i hC
      obtain ⟨i, r, ad, cap⟩ := i
      obtain ⟨hi, hr⟩ := hC
      refine JC_norm ⟨56, [], [_, _, _, _, _, _, _, _, _, _, _, _, _, _, _, _, _, _, _, _, _, _, _, _, _, _, _, _, _, _, _, _, _, _, _, _, _, _, _, _, _, _, _, _, _, _, _, _, _, _, _, _, _, _, _, _]⟩ [osl _ _ _ _ _ _] [_, _, _, _, _, _] rfl rfl rfl ?_
      refine JC_seq ?_
      refine JC_region ?_
      refine JL_lss rfl rfl ?_
      refine JL_split (fun h41 => ?_) (fun h41 => ?_)
      · refine JL_done_up 56 [osl _ _ _ _ _ _] [_, _, _, _, _, _] rfl rfl (by simp only [nrmF]; rfl) rfl rfl ?_
        refine JC_seq ?_
        refine JC_true rfl ?_
        refine JC_skip ?_
        refine JE_then ?_
        refine JC_seq ?_
        refine JC_block ?_
        refine JC_seq ?_
        refine JC_region ?_
        refine JL_idx i sl54 rfl rfl rfl (by omega) (by first | exact Reads.view (by repeat (first | with_reducible exact mm0 | refine mmS ?_)) | (exact Reads.own 0 rfl)) (by rw [i64s_length, List.length_drop]; omega) ?_
        refine JL_loadE ty3 rfl (by first | exact Reads.view (by repeat (first | with_reducible exact mm0 | refine mmS ?_)) | (exact Reads.own 0 rfl)) (i64s_get (by rw [List.length_drop]; omega)) ?_
        rw [getD_drop1]
        refine JL_assign rfl ?_
        refine JL_done_up 56 [osl _ _ _ _ _ _] [_, _, _, _, _, _] rfl rfl (by simp only [nrmF]; rfl) rfl rfl ?_
        refine JC_seq ?_
        refine JC_region ?_
        refine JL_move rfl ?_
        refine JL_move rfl ?_
        refine JL_move rfl ?_
        refine JL_callF' Asks.nil (ispans_con) rfl ca10 ⟨rfl, rfl, rfl, rfl⟩ ?_
        rintro _ _ ⟨ad48, c48, l48, rfl, hl48, rfl⟩
        refine JL_move rfl ?_
        refine JL_extract rfl rfl ?_
        refine JL_extract rfl rfl ?_
        refine JL_assign rfl ?_
        refine JL_assign rfl ?_
        refine JL_done_up 56 [osl _ _ _ _ _ _] [_, _, _, _, _, _, _, _] rfl rfl (by simp only [nrmF]; rfl) rfl rfl ?_
        have hlr := comL_len2 hck hlm (i := i) (by omega)
        rw [← hr, List.length_map] at hlr
        have hls := spL_len (L.getD (i + 1) 0) tol m
        rw [← hl48, List.length_map] at hls
        refine JC_region ?_
        refine JL_move rfl ?_
        refine JL_move rfl ?_
        refine JL_callA' true (AsksA.cons (holdsA_of_mem (by repeat (first | with_reducible exact mm0 | refine mmS ?_))) (AsksA.cons (holdsA_of_mem (by repeat (first | with_reducible exact mm0 | refine mmS ?_))) (AsksA.cons (holdsA_of_mem (by repeat (first | with_reducible exact mm0 | refine mmS ?_))) (AsksA.cons (holdsA_of_mem (by repeat (first | with_reducible exact mm0 | refine mmS ?_))) AsksA.nil)))) (smeet_con (se_qs hr (comL_qs3 L tol m i)) (se_qs hl48 (qs_spL (L.getD (i + 1) 0) tol m)) (by omega) (by omega)) rfl ca50 ⟨rfl, rfl, rfl⟩ ?_
        rintro _ _ ⟨ad53, c53, l53, rfl, hl53, rfl⟩
        refine JL_assign rfl ?_
        refine JL_nil_up 56 [osl _ _ _ _ _ _] [_, _, _, _, _, _, _, _, _, _] rfl rfl (by simp only [nrmF]; rfl) rfl rfl ?_
        refine JE_block_normal ?_
        refine JE_then ?_
        refine JC_region ?_
        refine JL_add_to rfl rfl (IntWalk.i64_in _ (by omega)) ?_
        refine JL_move rfl ?_
        refine JL_nil_up 56 [osl _ _ _ _ _ _] [_, _, _, _, _, _, _, _, _, _] rfl rfl (by simp only [nrmF]; rfl) rfl rfl ?_
        refine JE_nextS (i + 1, l53, ad53, c53) (by kernel_rfl) ?_ ?_ (by kernel_rfl) ?_
        · exact ⟨by omega, comL_next hr hl48 hl53⟩
        · first | omega | (dsimp only; omega)
        · exact subset_app (subset_cons (by repeat (first | with_reducible exact mm0 | refine mmS ?_)) (subset_cons (by repeat (first | with_reducible exact mm0 | refine mmS ?_)) subset_nil)) (ssS (ssS (ssS (ssS (ssS (ssS ss0))))))
      · refine JL_done_up 56 [osl _ _ _ _ _ _] [_, _, _, _, _, _] rfl rfl (by simp only [nrmF]; rfl) rfl rfl ?_
        refine JC_seq ?_
        refine JC_false rfl ?_
        refine JC_exit ?_
        refine JE_then_exit ?_
        refine JE_nextS_exit ?_
        refine JE_block_exit ?_
        refine JE_then ?_
        refine JC_seq ?_
        refine JC_region ?_
        refine JL_move rfl ?_
        refine JL_assign rfl ?_
        refine JL_assign rfl ?_
        refine JL_done_up 56 [osl _ _ _ _ _ _] [_, _, _, _, _, _] rfl rfl (by simp only [nrmF]; rfl) rfl rfl ?_
        refine JC_ret ?_
        have he : comE L tol m = 0 := comE_ok hck hlm (by omega)
        have hie : i = L.length - 1 := by omega
        subst hie
        refine JE_ret (vs := [_, _]) [vCells ad (scells r), vSes r] Tryd.results27 ⟨rfl, rfl, rfl⟩ ?_ ?_
        · rw [comR_ok he, he]; exact ⟨ad, cap, r, rfl, hr, rfl⟩
        · exact (all_cons (by repeat (first | with_reducible exact mm0 | refine mmS ?_)) (all_cons (by repeat (first | with_reducible exact mm0 | refine mmS ?_)) all_nil))

end Go.Fw.K
