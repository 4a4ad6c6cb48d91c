/- Walks through functions of the given program: each meets its contract. (Printed by a program of this repo.) -/
import Derived.Test.YtgnljjdcbfijnaaGreatDoorS18
import Derived.Test.YtgnljjdcbfijnaaGreatDoorSC
import Derived.Test.YtgnljjdcbfijnaaGreatDoorStdM
import Derived.Test.YtgnljjdcbfijnaaGreatDoorProg
namespace Go.Fw.S20
open Go Go.RowKit Go.Proofs Go.Nat9 Go.Fw
attribute [local irreducible] JC JL JE
theorem ca36 : callable Tryz.prog 36 = true := by kernel_rfl
theorem ca40 : callable Tryz.prog 40 = true := by kernel_rfl
theorem ca46 : callable Tryz.prog 46 = true := by kernel_rfl
theorem ca49 : callable Tryz.prog 49 = true := by kernel_rfl
theorem fo55_0 : fOf Tryz.prog 55 0 = some 0 := by kernel_rfl
theorem fo55_1 : fOf Tryz.prog 55 1 = some 3 := by kernel_rfl
theorem mixed : Tryz.prog.follows .mixedOrders = true := by kernel_rfl
theorem sl37 : slOf Tryz.prog 37 = some (3, 1, 8, [.int .i64 0]) := by kernel_rfl
theorem sl43 : slOf Tryz.prog 43 = some (55, 6, 112, [.bool false, .slice none 0 0, .slice none 0 0, .bool false, .slice none 0 0, .slice none 0 0]) := by kernel_rfl
theorem ty26 : tyOf Tryz.prog 26 = some (true, 3) := by kernel_rfl
theorem ty3 : tyOf Tryz.prog 3 = some (false, 1) := by kernel_rfl
theorem ty55 : tyOf Tryz.prog 55 = some (true, 6) := by kernel_rfl
theorem z55 : zeroOf Tryz.prog 55 = some [.bool false, .slice none 0 0, .slice none 0 0, .bool false, .slice none 0 0, .slice none 0 0] := by kernel_rfl
end Go.Fw.S20
namespace Go.Fw.K
open Go Go.RowKit Go.Proofs Go.Nat9 Go.Fw Go.Fw.S20
attribute [local irreducible] JC JL JE

set_option maxHeartbeats 2000000 in
set_option maxRecDepth 20000 in
theorem rcommon_con {tol m : Int} {ad0 : Option Addr} {c0 : Nat} {L : List Int} :
    ConF Tryz.prog 19 [.slice ad0 L.length c0, .int .i64 tol, .int .i64 m] [vCells ad0 (i64s L)]
      (SPS (comR L tol m) (comE L tol m)) := by
  refine ConF_of Tryz.func19 rfl 113 _ rfl rfl ?_
  intro w0
  refine JC_norm ⟨113, [], [_, _, _, _, _, _, _, _, _, _, _, _, _, _, _, _, _, _, _, _, _, _, _, _, _, _, _, _, _, _, _, _, _, _, _, _, _, _, _, _, _, _, _, _, _, _, _, _, _, _, _, _, _, _, _, _, _, _, _, _, _, _, _, _, _, _, _, _, _, _, _, _, _, _, _, _, _, _, _, _, _, _, _, _, _, _, _, _, _, _, _, _, _, _, _, _, _, _, _, _, _, _, _, _, _, _, _, _, _, _, _, _, _]⟩ [] [_] rfl rfl rfl ?_
  refine JC_seq ?_
  refine JC_region ?_
  refine JL_assign rfl ?_
  refine JL_assign rfl ?_
  refine JL_done_up 113 [] [_] rfl rfl (by simp only [nrmF]; rfl) rfl rfl ?_
  refine JC_seq ?_
  refine JC_seq ?_
  refine JC_region ?_
  refine JL_move rfl ?_
  refine JL_callF' (Asks.cons (holds_of_mem (by repeat (first | with_reducible exact mm0 | refine mmS ?_))) Asks.nil) (rcheck_con) rfl ca46 ⟨rfl, rfl⟩ ?_
  rintro _ _ ⟨rfl, rfl⟩
  refine JL_assign rfl ?_
  refine JL_done_up 113 [] [_] rfl rfl (by simp only [nrmF]; rfl) rfl rfl ?_
  refine JC_seq ?_
  refine JC_region ?_
  refine JL_move rfl ?_
  refine JL_neq rfl rfl ?_
  refine JL_split (fun h21 => ?_) (fun h21 => ?_)
  · refine JL_done_up 113 [] [_] rfl rfl (by simp only [nrmF]; rfl) rfl rfl ?_
    refine JC_true rfl ?_
    refine JC_seq ?_
    refine JC_region ?_
    refine JL_move rfl ?_
    refine JL_assign rfl ?_
    refine JL_assign rfl ?_
    refine JL_done_up 113 [] [_] rfl rfl (by simp only [nrmF]; rfl) rfl rfl ?_
    refine JC_ret ?_
    refine JE_then_ret ?_
    have he : comE L tol m = chkE L := comE_chk h21
    refine JE_sesNil ?_
    refine JE_ret (vs := [_, _]) [vCells none (scells []), vSes []] Tryz.results19 ⟨rfl, rfl, rfl⟩ ?_ ?_
    · rw [comR_no (by rw [he]; first | assumption | decide), he]; exact ⟨none, 0, [], rfl, rfl, rfl⟩
    · exact (all_cons (by repeat (first | with_reducible exact mm0 | refine mmS ?_)) (all_cons (by repeat (first | with_reducible exact mm0 | refine mmS ?_)) all_nil))
  · refine JL_done_up 113 [] [_] rfl rfl (by simp only [nrmF]; rfl) rfl rfl ?_
    refine JC_false rfl ?_
    refine JC_skip ?_
    refine JE_then ?_
    refine JC_seq ?_
    refine JC_seq ?_
    refine JC_region ?_
    refine JL_move rfl ?_
    refine JL_move rfl ?_
    refine JL_callF' Asks.nil (rlim_con) rfl ca36 ⟨rfl, rfl, rfl⟩ ?_
    rintro _ _ ⟨rfl, rfl⟩
    refine JL_split (fun h25 => ?_) (fun h25 => ?_)
    · refine JL_not rfl ?_
      rw [Bool.not_true]
      refine JL_done_up 113 [] [_] rfl rfl (by simp only [nrmF]; rfl) rfl rfl ?_
      refine JC_false rfl ?_
      refine JC_skip ?_
      refine JE_then ?_
      refine JC_seq ?_
      refine JC_seq ?_
      refine JC_region ?_
      refine JL_move rfl ?_
      refine JL_len sl37 rfl ?_
      refine JL_eql rfl rfl ?_
      refine JL_split (fun h29 => ?_) (fun h29 => ?_)
      · refine JL_done_up 113 [] [_] rfl rfl (by simp only [nrmF]; rfl) rfl rfl ?_
        refine JC_true rfl ?_
        refine JC_seq ?_
        refine JC_region ?_
        refine JL_assign rfl ?_
        refine JL_assign rfl ?_
        refine JL_done_up 113 [] [_] rfl rfl (by simp only [nrmF]; rfl) rfl rfl ?_
        refine JC_ret ?_
        refine JE_then_ret ?_
        have he : comE L tol m = 7 := comE_nil (Classical.byContradiction h21) (limE_ok h25) (by omega)
        refine JE_sesNil ?_
        refine JE_ret (vs := [_, _]) [vCells none (scells []), vSes []] Tryz.results19 ⟨rfl, rfl, rfl⟩ ?_ ?_
        · rw [comR_no (by rw [he]; first | assumption | decide), he]; exact ⟨none, 0, [], rfl, rfl, rfl⟩
        · exact (all_cons (by repeat (first | with_reducible exact mm0 | refine mmS ?_)) (all_cons (by repeat (first | with_reducible exact mm0 | refine mmS ?_)) all_nil))
      · refine JL_done_up 113 [] [_] rfl rfl (by simp only [nrmF]; rfl) rfl rfl ?_
        refine JC_false rfl ?_
        refine JC_skip ?_
        refine JE_then ?_
        refine JC_seq ?_
        have hck : chkE L = 0 := Classical.byContradiction h21
        have hlm : limE tol m = 0 := limE_ok h25
        obtain ⟨hn64, hws⟩ := chkE_zero hck
        refine JC_region ?_
        refine JL_move rfl ?_
        refine JL_idx 0 sl37 rfl rfl rfl (by omega) (by first | exact Reads.view (by repeat (first | with_reducible exact mm0 | refine mmS ?_))) (by first | (rw [u32s_length]; omega) | (rw [i64s_length]; omega)) ?_
        refine JL_loadE ty3 rfl (by first | exact Reads.view (by repeat (first | with_reducible exact mm0 | refine mmS ?_))) (i64s_get (by omega)) ?_
        refine JL_move rfl ?_
        refine JL_move rfl ?_
        refine JL_callF' Asks.nil (rspans_con) rfl ca49 ⟨rfl, rfl, rfl, rfl⟩ ?_
        rintro _ _ ⟨ad36, c36, l36, rfl, hl36, rfl⟩
        refine JL_move rfl ?_
        refine JL_extract rfl rfl ?_
        refine JL_extract rfl rfl ?_
        refine JL_assign rfl ?_
        refine JL_assign rfl ?_
        refine JL_done_up 113 [] [_, _, _] rfl rfl (by simp only [nrmF]; rfl) rfl rfl ?_
        refine JC_seq ?_
        refine JC_seq ?_
        refine JC_region ?_
        refine JL_assign rfl ?_
        refine JL_done_up 113 [] [_, _, _] rfl rfl (by simp only [nrmF]; rfl) rfl rfl ?_
        refine JC_block ?_
        refine JC_loopS ((Nat) × (List Se) × (Option Addr) × (Nat)) (fun (i, r, ad, cap) => 1 ≤ i ∧ i ≤ L.length ∧ r.map Se.qq = comL L tol m (i - 1)) (fun (i, r, ad, cap) => L.length - i) (fun u (i, r, ad, cap) => [none, none, none, none, none, none, none, none, none, some (.slice ad r.length cap), none, some (.int .i64 (i : Nat)), some (u 12), some (u 13), some (u 14), some (u 15), some (u 16), some (u 17), none, none, none, none, none, none, none, none, none, none, none, none, none, none, none, none, none, none, none, none, none, some (u 39), some (u 40), some (u 41), some (u 42), some (u 43), some (u 44), some (u 45), some (u 46), some (u 47), some (u 48), some (u 49), some (u 50), some (u 51), some (u 52), some (u 53), some (u 54), some (u 55), some (u 56), some (u 57), some (u 58), some (u 59), some (u 60), some (u 61), some (u 62), some (u 63), some (u 64), some (u 65), some (u 66), some (u 67), some (u 68), some (u 69), some (u 70), some (u 71), some (u 72), some (u 73), some (u 74), some (u 75), some (u 76), some (u 77), some (u 78), some (u 79), some (u 80), some (u 81), some (u 82), some (u 83), some (u 84), some (u 85), some (u 86), some (u 87), some (u 88), some (u 89), some (u 90), some (u 91), some (u 92), some (u 93), some (u 94), some (u 95), some (u 96), some (u 97), some (u 98), some (u 99), some (u 100), some (u 101), some (u 102), some (u 103), some (u 104), some (u 105), some (u 106), some (u 107), some (u 108), some (u 109), some (u 110), some (u 111), none]) (fun (i, r, ad, cap) => []) (fun (i, r, ad, cap) => [(true, vCells ad (scells r)), (true, vSes r)]) (1, l36, ad36, c36) (by kernel_rfl) ?_ (by kernel_rfl) ?_ ?_
        · exact ⟨Nat.le_refl _, by omega, hl36⟩
        · exact (subset_cons (by repeat (first | with_reducible exact mm0 | refine mmS ?_)) (subset_cons (by repeat (first | with_reducible exact mm0 | refine mmS ?_)) subset_nil))
        intro u i hC
        obtain ⟨i, r, ad, cap⟩ := i
        obtain ⟨hi1, hi, hr⟩ := hC
        refine JC_norm ⟨113, [], [_, _, _, _, _, _, _, _, _, _, _, _, _, _, _, _, _, _, _, _, _, _, _, _, _, _, _, _, _, _, _, _, _, _, _, _, _, _, _, _, _, _, _, _, _, _, _, _, _, _, _, _, _, _, _, _, _, _, _, _, _, _, _, _, _, _, _, _, _, _, _, _, _, _, _, _, _, _, _, _, _, _, _, _, _, _, _, _, _, _, _, _, _, _, _, _, _, _, _, _, _, _, _, _, _, _, _, _, _, _, _, _, _]⟩ [] [_, _, _, _, _] rfl rfl rfl ?_
        refine JC_seq ?_
        refine JC_seq ?_
        refine JC_region ?_
        refine JL_move rfl ?_
        refine JL_move rfl ?_
        refine JL_len sl37 rfl ?_
        refine JL_lss rfl rfl ?_
        refine JL_split (fun h42 => ?_) (fun h42 => ?_)
        · refine JL_done_up 113 [] [_, _, _, _, _] rfl rfl (by simp only [nrmF]; rfl) rfl rfl ?_
          refine JC_true rfl ?_
          refine JC_skip ?_
          refine JE_then ?_
          refine JC_seq ?_
          refine JC_block ?_
          refine JC_seq ?_
          refine JC_region ?_
          refine JL_move rfl ?_
          refine JL_move rfl ?_
          refine JL_idx i sl37 rfl rfl rfl (by omega) (by first | exact Reads.view (by repeat (first | with_reducible exact mm0 | refine mmS ?_))) (by first | (rw [u32s_length]; omega) | (rw [i64s_length]; omega)) ?_
          refine JL_loadE ty3 rfl (by first | exact Reads.view (by repeat (first | with_reducible exact mm0 | refine mmS ?_))) (i64s_get (by omega)) ?_
          refine JL_move rfl ?_
          refine JL_move rfl ?_
          refine JL_callF' Asks.nil (rspans_con) rfl ca49 ⟨rfl, rfl, rfl, rfl⟩ ?_
          rintro _ _ ⟨ad52, c52, l52, rfl, hl52, rfl⟩
          refine JL_move rfl ?_
          refine JL_extract rfl rfl ?_
          refine JL_extract rfl rfl ?_
          refine JL_assign rfl ?_
          refine JL_assign rfl ?_
          refine JL_done_up 113 [] [_, _, _, _, _, _, _] rfl rfl (by simp only [nrmF]; rfl) rfl rfl ?_
          refine JC_seq ?_
          refine JC_region ?_
          refine JL_assign rfl ?_
          refine JL_done_up 113 [] [_, _, _, _, _, _, _] rfl rfl (by simp only [nrmF]; rfl) rfl rfl ?_
          refine JC_seq ?_
          refine JC_seq ?_
          refine JC_region ?_
          refine JL_assign rfl ?_
          refine JL_done_up 113 [] [_, _, _, _, _, _, _] rfl rfl (by simp only [nrmF]; rfl) rfl rfl ?_
          refine JC_block ?_
          refine JC_sesNil ?_
          refine JC_addNil 55 6 ?_
          refine JC_norm ⟨113, [], [_, _, _, _, _, _, _, _, _, _, _, _, _, _, _, _, _, _, _, _, _, _, _, _, _, _, _, _, _, _, _, _, _, _, _, _, _, _, _, _, _, _, _, _, _, _, _, _, _, _, _, _, _, _, _, _, _, _, _, _, _, _, _, _, _, _, _, _, _, _, _, _, _, _, _, _, _, _, _, _, _, _, _, _, _, _, _, _, _, _, _, _, _, _, _, _, _, _, _, _, _, _, _, _, _, _, _, _, _, _, _, _, _]⟩ [osl _ _ _ _ _ _] [_, _, _, _, _, _, _, _] rfl rfl rfl ?_
          refine JC_loopS ((Nat) × (List Se) × (Option Addr) × (Nat) × (Nat)) (fun (a, r2, ad2, cap2, n2) => a ≤ r.length ∧ r2.map Se.qq = meetL (r.map Se.qq) (l52.map Se.qq) a ∧ r2.length = n2) (fun (a, r2, ad2, cap2, n2) => r.length - a) (fun u (a, r2, ad2, cap2, n2) => [none, none, none, none, none, none, none, none, none, none, none, none, none, none, some (.slice ad2 n2 cap2), some (.int .i64 (a : Nat)), some (u 16), some (u 17), none, none, none, none, none, none, none, none, none, none, none, none, none, none, none, none, none, none, none, none, none, none, none, none, none, none, none, none, none, none, none, none, none, none, none, none, none, some (u 55), some (u 56), some (u 57), some (u 58), some (u 59), some (u 60), some (u 61), some (u 62), some (u 63), some (u 64), some (u 65), some (u 66), some (u 67), some (u 68), some (u 69), some (u 70), some (u 71), some (u 72), some (u 73), some (u 74), some (u 75), some (u 76), some (u 77), some (u 78), some (u 79), some (u 80), some (u 81), some (u 82), some (u 83), some (u 84), some (u 85), some (u 86), some (u 87), some (u 88), some (u 89), some (u 90), some (u 91), some (u 92), some (u 93), some (u 94), some (u 95), some (u 96), some (u 97), some (u 98), some (u 99), some (u 100), some (u 101), some (u 102), some (u 103), some (u 104), some (u 105), some (u 106), some (u 107), some (u 108), some (u 109), some (u 110), none, none]) (fun (a, r2, ad2, cap2, n2) => [some (osl ad2 n2 cap2 55 6 (scells r2))]) (fun (a, r2, ad2, cap2, n2) => [(true, vSes r2)]) (0, [], none, 0, 0) (by kernel_rfl) ?_ (by kernel_rfl) ?_ ?_
          · exact ⟨Nat.zero_le _, rfl, rfl⟩
          · exact (subset_cons (by repeat (first | with_reducible exact mm0 | refine mmS ?_)) subset_nil)
          intro u i hC
          obtain ⟨a, r2, ad2, cap2, n2⟩ := i
          obtain ⟨ha, hr2, hn2⟩ := hC
          refine JC_norm ⟨113, [], [_, _, _, _, _, _, _, _, _, _, _, _, _, _, _, _, _, _, _, _, _, _, _, _, _, _, _, _, _, _, _, _, _, _, _, _, _, _, _, _, _, _, _, _, _, _, _, _, _, _, _, _, _, _, _, _, _, _, _, _, _, _, _, _, _, _, _, _, _, _, _, _, _, _, _, _, _, _, _, _, _, _, _, _, _, _, _, _, _, _, _, _, _, _, _, _, _, _, _, _, _, _, _, _, _, _, _, _, _, _, _, _, _]⟩ [osl _ _ _ _ _ _] [_, _, _, _, _, _, _, _, _] rfl rfl rfl ?_
          refine JC_seq ?_
          refine JC_seq ?_
          refine JC_region ?_
          refine JL_move rfl ?_
          refine JL_move rfl ?_
          refine JL_len sl43 rfl ?_
          refine JL_lss rfl rfl ?_
          refine JL_split (fun h58 => ?_) (fun h58 => ?_)
          · refine JL_done_up 113 [osl _ _ _ _ _ _] [_, _, _, _, _, _, _, _, _] rfl rfl (by simp only [nrmF]; rfl) rfl rfl ?_
            refine JC_true rfl ?_
            refine JC_skip ?_
            refine JE_then ?_
            refine JC_seq ?_
            refine JC_block ?_
            refine JC_seq ?_
            have hlr := comL_len2 hck hlm (i := i - 1) (by omega)
            rw [← hr, List.length_map] at hlr
            have hls := spL_len (L.getD i 0) tol m
            rw [← hl52, List.length_map] at hls
            refine JC_region ?_
            refine JL_assign rfl ?_
            refine JL_done_up 113 [osl _ _ _ _ _ _] [_, _, _, _, _, _, _, _, _] rfl rfl (by simp only [nrmF]; rfl) rfl rfl ?_
            refine JC_block ?_
            refine JC_loopS ((Nat) × (List Se) × (Option Addr) × (Nat) × (Nat)) (fun (b, r3, ad3, cap3, n3) => b ≤ l52.length ∧ r3.map Se.qq = meetI (meetL (r.map Se.qq) (l52.map Se.qq) a) ((r.map Se.qq).getD a (0, 0)) (l52.map Se.qq) b ∧ r3.length = n3) (fun (b, r3, ad3, cap3, n3) => l52.length - b) (fun u (b, r3, ad3, cap3, n3) => [none, none, none, none, none, none, none, none, none, none, none, none, none, none, some (.slice ad3 n3 cap3), none, some (.int .i64 (b : Nat)), some (u 17), none, none, none, none, none, none, none, none, none, none, none, none, none, none, none, none, none, none, none, none, none, none, none, none, none, none, none, none, none, none, none, none, none, none, none, none, none, none, none, none, none, none, none, some (u 61), some (u 62), some (u 63), some (u 64), some (u 65), some (u 66), some (u 67), some (u 68), some (u 69), some (u 70), some (u 71), some (u 72), some (u 73), some (u 74), some (u 75), some (u 76), some (u 77), some (u 78), some (u 79), some (u 80), some (u 81), some (u 82), some (u 83), some (u 84), some (u 85), some (u 86), some (u 87), some (u 88), some (u 89), some (u 90), some (u 91), some (u 92), some (u 93), some (u 94), some (u 95), some (u 96), some (u 97), some (u 98), some (u 99), some (u 100), some (u 101), some (u 102), some (u 103), some (u 104), some (u 105), some (u 106), some (u 107), some (u 108), some (u 109), some (u 110), none, none]) (fun (b, r3, ad3, cap3, n3) => [some (osl ad3 n3 cap3 55 6 (scells r3))]) (fun (b, r3, ad3, cap3, n3) => [(true, vSes r3)]) (0, r2, ad2, cap2, n2) (by kernel_rfl) ?_ (by kernel_rfl) ?_ ?_
            · exact ⟨Nat.zero_le _, hr2, hn2⟩
            · exact (subset_cons (by repeat (first | with_reducible exact mm0 | refine mmS ?_)) subset_nil)
            intro u i hC
            obtain ⟨b, r3, ad3, cap3, n3⟩ := i
            obtain ⟨hb, hr3, hn3⟩ := hC
            refine JC_norm ⟨113, [], [_, _, _, _, _, _, _, _, _, _, _, _, _, _, _, _, _, _, _, _, _, _, _, _, _, _, _, _, _, _, _, _, _, _, _, _, _, _, _, _, _, _, _, _, _, _, _, _, _, _, _, _, _, _, _, _, _, _, _, _, _, _, _, _, _, _, _, _, _, _, _, _, _, _, _, _, _, _, _, _, _, _, _, _, _, _, _, _, _, _, _, _, _, _, _, _, _, _, _, _, _, _, _, _, _, _, _, _, _, _, _, _, _]⟩ [osl _ _ _ _ _ _] [_, _, _, _, _, _, _, _, _, _] rfl rfl rfl ?_
            refine JC_seq ?_
            refine JC_seq ?_
            refine JC_region ?_
            refine JL_move rfl ?_
            refine JL_move rfl ?_
            refine JL_len sl43 rfl ?_
            refine JL_lss rfl rfl ?_
            refine JL_split (fun h64 => ?_) (fun h64 => ?_)
            · refine JL_done_up 113 [osl _ _ _ _ _ _] [_, _, _, _, _, _, _, _, _, _] rfl rfl (by simp only [nrmF]; rfl) rfl rfl ?_
              refine JC_true rfl ?_
              refine JC_skip ?_
              refine JE_then ?_
              refine JC_seq ?_
              refine JC_block ?_
              refine JC_seq ?_
              refine JC_sesGet (f := true) (l := r) (r.getD a dS) (by repeat (first | with_reducible exact mm0 | refine mmS ?_)) (se_mem (by omega)) ?_
              refine JC_sesGet (f := true) (l := l52) (l52.getD b dS) (by repeat (first | with_reducible exact mm0 | refine mmS ?_)) (se_mem (by omega)) ?_
              have hbr := se_qs hr (comL_qs3 L tol m (i - 1)) a
              have hbo := se_qs hl52 (qs_spL (L.getD i 0) tol m) b
              have hln := meetI_len (meetL (r.map Se.qq) (l52.map Se.qq) a) ((r.map Se.qq).getD a (0, 0)) (l52.map Se.qq) b
              rw [← hr3, List.length_map, hn3] at hln
              have hll := meetL_len (r.map Se.qq) (l52.map Se.qq) a
              rw [List.length_map] at hll
              have hmm : a * l52.length ≤ 1536 * 24 := Nat.mul_le_mul (by omega) hls
              refine JC_region ?_
              refine JL_move rfl ?_
              refine JL_move rfl ?_
              refine JL_indexAddr a sl43 rfl rfl rfl (by omega) (by first | exact Reads.view (by repeat (first | with_reducible exact mm0 | refine mmS ?_)) | (exact Reads.own 0 rfl)) (by rw [scells_length]; omega) ?_
              refine JL_loadEA (vs := [_, _, _, _, _, _]) ty55 (Nat.zero_lt_succ _) rfl (by first | exact Reads.view (by repeat (first | with_reducible exact mm0 | refine mmS ?_)) | (exact Reads.own 0 rfl)) (scells_getA (by omega)) ?_
              refine JL_alloc z55 (fun b17 => ?_)
              refine JL_store (vs := [_, _, _, _, _, _]) 1 ty55 rfl rfl rfl (AllOne.cons rfl (AllOne.cons rfl (AllOne.cons rfl (AllOne.cons rfl (AllOne.cons rfl (AllOne.cons rfl AllOne.nil)))))) rfl (Nat.le_of_ble_eq_true rfl) ?_
              refine JL_done_up 113 [osl _ _ _ _ _ _, box _ _ [_, _, _, _, _, _]] [_, _, _, _, _, _, _, _, _, _, _, _, _, _, _, _, _, _] rfl rfl (by simp only [nrmF]; rfl) rfl rfl ?_
              refine JC_seq ?_
              refine JC_seq ?_
              refine JC_drawT mixed 7 [spV 71 [] _, spV 72 [] _, spV 73 [0, 1] _, spV 74 [2] _, spV 75 [3] _, spV 76 [] _, spV 77 [5] _] ⟨OblS_V (fun vals ex ψ => (by
                  refine JL_normQ ⟨113, [(71, _), (72, _), (73, _), (74, _), (75, _), (76, _), (77, _)], _⟩ (_ :: _ :: _ :: _ :: _ :: _ :: _ :: _ :: _ :: _ :: _ :: _ :: _ :: _ :: _ :: _ :: _ :: _ :: ψ) rfl rfl ?_
                  refine JL_move rfl ?_
                  exact JL_nil (JE_stepV rfl ss0))), OblS_V (fun vals ex ψ => (by
                  refine JL_normQ ⟨113, [(71, _), (72, _), (73, _), (74, _), (75, _), (76, _), (77, _)], _⟩ (_ :: _ :: _ :: _ :: _ :: _ :: _ :: _ :: _ :: _ :: _ :: _ :: _ :: _ :: _ :: _ :: _ :: _ :: ψ) rfl rfl ?_
                  refine JL_move rfl ?_
                  exact JL_nil (JE_stepV rfl ss0))), OblS_V (fun vals ex ψ => (by
                  refine JL_normQ ⟨113, [(71, _), (72, _), (73, _), (74, _), (75, _), (76, _), (77, _)], _⟩ (_ :: _ :: _ :: _ :: _ :: _ :: _ :: _ :: _ :: _ :: _ :: _ :: _ :: _ :: _ :: _ :: _ :: _ :: ψ) rfl rfl ?_
                  refine JL_indexAddr b sl43 rfl rfl rfl (by omega) (by first | exact Reads.view (by repeat (first | with_reducible exact mm0 | refine mmS ?_)) | (exact Reads.own 0 rfl)) (by rw [scells_length]; omega) ?_
                  exact JL_nil (JE_stepV rfl ss0))), OblS_V (fun vals ex ψ => (by
                  refine JL_normQ ⟨113, [(71, _), (72, _), (73, _), (74, _), (75, _), (76, _), (77, _)], _⟩ (_ :: _ :: _ :: _ :: _ :: _ :: _ :: _ :: _ :: _ :: _ :: _ :: _ :: _ :: _ :: _ :: _ :: _ :: ψ) rfl rfl ?_
                  refine JL_fieldAddrE fo55_0 rfl (by first | exact Reads.view (by repeat (first | with_reducible exact mm0 | refine mmS ?_)) | (exact Reads.own 0 rfl)) (by rw [scells_length]; omega) ?_
                  exact JL_nil (JE_stepV rfl ss0))), OblS_V (fun vals ex ψ => (by
                  refine JL_normQ ⟨113, [(71, _), (72, _), (73, _), (74, _), (75, _), (76, _), (77, _)], _⟩ (_ :: _ :: _ :: _ :: _ :: _ :: _ :: _ :: _ :: _ :: _ :: _ :: _ :: _ :: _ :: _ :: _ :: _ :: ψ) rfl rfl ?_
                  refine JL_loadEA (vs := [_, _, _]) ty26 (Nat.zero_lt_succ _) rfl (by first | exact Reads.view (by repeat (first | with_reducible exact mm0 | refine mmS ?_)) | (exact Reads.own 0 rfl)) (scells_loA (by omega)) ?_
                  exact JL_nil (JE_stepV rfl ss0))), OblS_V (fun vals ex ψ => (by
                  refine JL_normQ ⟨113, [(71, _), (72, _), (73, _), (74, _), (75, _), (76, _), (77, _)], _⟩ (_ :: _ :: _ :: _ :: _ :: _ :: _ :: _ :: _ :: _ :: _ :: _ :: _ :: _ :: _ :: _ :: _ :: _ :: ψ) rfl rfl ?_
                  refine JL_fieldAddr fo55_0 rfl ?_
                  exact JL_nil (JE_stepV rfl ss0))), OblS_V (fun vals ex ψ => (by
                  refine JL_normQ ⟨113, [(71, _), (72, _), (73, _), (74, _), (75, _), (76, _), (77, _)], _⟩ (_ :: _ :: _ :: _ :: _ :: _ :: _ :: _ :: _ :: _ :: _ :: _ :: _ :: _ :: _ :: _ :: _ :: _ :: ψ) rfl rfl ?_
                  refine JL_loadA (vs := [_, _, _]) 1 ty26 rfl rfl ⟨rfl, rfl, rfl, trivial⟩ ?_
                  exact JL_nil (JE_stepV rfl ss0))), trivial⟩ (by kernel_rfl) (fun vals bs => ?_)
              refine JL_normL [_, _] ⟨113, [(71, _), (72, _), (73, _), (74, _), (75, _), (76, _), (77, _)], _⟩ [osl _ _ _ _ _ _, box _ _ [_, _, _, _, _, _]] [_, _, _, _, _, _, _, _, _, _, _, _, _, _, _, _, _, _] rfl rfl rfl rfl ?_
              refine JL_callF' (Asks.cons (by first | exact holds_of_mem (by repeat (first | with_reducible exact mm0 | refine mmS ?_)) | (exact holds_of_own 0 rfl)) (Asks.cons (by first | exact holds_of_mem (by repeat (first | with_reducible exact mm0 | refine mmS ?_)) | (exact holds_of_own 0 rfl)) (Asks.cons (by first | exact holds_of_mem (by repeat (first | with_reducible exact mm0 | refine mmS ?_)) | (exact holds_of_own 0 rfl)) (Asks.cons (by first | exact holds_of_mem (by repeat (first | with_reducible exact mm0 | refine mmS ?_)) | (exact holds_of_own 0 rfl)) Asks.nil)))) (rcmpq_con (FIn.some (hbo.1.mono (by decide))) (FIn.some (hbr.1.mono (by decide)))) rfl ca40 ⟨rfl, rfl, rfl⟩ ?_
              rintro _ _ ⟨rfl, rfl⟩
              refine JL_gtr rfl rfl ?_
              refine JL_split (fun h79 => ?_) (fun h79 => ?_)
              · obtain ⟨zl, hzzl⟩ : ∃ z : Fe, (l52.getD b dS).lo = z := ⟨_, rfl⟩
                rw [hzzl]
                have hlo : (if (r.getD a dS).lo.q < (l52.getD b dS).lo.q then (l52.getD b dS).lo.q else (r.getD a dS).lo.q) = zl.q := by rw [if_pos (cmpQ_pos.1 h79), hzzl]
                have hql : qs zl.q 3 := by rw [← hzzl]; exact hbo.1
                refine JL_done_up 113 [osl _ _ _ _ _ _, box _ _ [_, _, _, _, _, _]] [_, _, _, _, _, _, _, _, _, _, _, _, _, _, _, _, _, _] rfl rfl (by simp only [nrmF]; rfl) rfl rfl ?_
                refine JC_true rfl ?_
                refine JC_region ?_
                refine JL_move rfl ?_
                refine JL_move rfl ?_
                refine JL_indexAddr b sl43 rfl rfl rfl (by omega) (by first | exact Reads.view (by repeat (first | with_reducible exact mm0 | refine mmS ?_)) | (exact Reads.own 0 rfl)) (by rw [scells_length]; omega) ?_
                refine JL_fieldAddrE fo55_0 rfl (by first | exact Reads.view (by repeat (first | with_reducible exact mm0 | refine mmS ?_)) | (exact Reads.own 0 rfl)) (by rw [scells_length]; omega) ?_
                refine JL_loadEA (vs := [_, _, _]) ty26 (Nat.zero_lt_succ _) rfl (by first | exact Reads.view (by repeat (first | with_reducible exact mm0 | refine mmS ?_)) | (exact Reads.own 0 rfl)) (scells_loA (by omega)) ?_
                rw [hzzl]
                refine JL_fieldAddr fo55_0 rfl ?_
                refine JL_store (vs := [_, _, _]) 1 ty26 rfl rfl rfl (AllOne.cons rfl (AllOne.cons rfl (AllOne.cons rfl AllOne.nil))) rfl (Nat.le_of_ble_eq_true rfl) ?_
                refine JL_done_up 113 [osl _ _ _ _ _ _, box _ _ [_, _, _, _, _, _]] [_, _, _, _, _, _, _, _, _, _, _, _, _, _, _, _, _, _] rfl rfl (by simp only [nrmF]; rfl) rfl rfl ?_
                refine JC_seq ?_
                refine JC_seq ?_
                refine JC_drawT mixed 7 [spV 86 [] _, spV 87 [] _, spV 88 [0, 1] _, spV 89 [2] _, spV 90 [3] _, spV 91 [] _, spV 92 [5] _] ⟨OblS_V (fun vals ex ψ => (by
                    refine JL_normQ ⟨113, [(86, _), (87, _), (88, _), (89, _), (90, _), (91, _), (92, _)], _⟩ (_ :: _ :: _ :: _ :: _ :: _ :: _ :: _ :: _ :: _ :: _ :: _ :: _ :: _ :: _ :: _ :: _ :: _ :: ψ) rfl rfl ?_
                    refine JL_move rfl ?_
                    exact JL_nil (JE_stepV rfl ss0))), OblS_V (fun vals ex ψ => (by
                    refine JL_normQ ⟨113, [(86, _), (87, _), (88, _), (89, _), (90, _), (91, _), (92, _)], _⟩ (_ :: _ :: _ :: _ :: _ :: _ :: _ :: _ :: _ :: _ :: _ :: _ :: _ :: _ :: _ :: _ :: _ :: _ :: ψ) rfl rfl ?_
                    refine JL_move rfl ?_
                    exact JL_nil (JE_stepV rfl ss0))), OblS_V (fun vals ex ψ => (by
                    refine JL_normQ ⟨113, [(86, _), (87, _), (88, _), (89, _), (90, _), (91, _), (92, _)], _⟩ (_ :: _ :: _ :: _ :: _ :: _ :: _ :: _ :: _ :: _ :: _ :: _ :: _ :: _ :: _ :: _ :: _ :: _ :: ψ) rfl rfl ?_
                    refine JL_indexAddr b sl43 rfl rfl rfl (by omega) (by first | exact Reads.view (by repeat (first | with_reducible exact mm0 | refine mmS ?_)) | (exact Reads.own 0 rfl)) (by rw [scells_length]; omega) ?_
                    exact JL_nil (JE_stepV rfl ss0))), OblS_V (fun vals ex ψ => (by
                    refine JL_normQ ⟨113, [(86, _), (87, _), (88, _), (89, _), (90, _), (91, _), (92, _)], _⟩ (_ :: _ :: _ :: _ :: _ :: _ :: _ :: _ :: _ :: _ :: _ :: _ :: _ :: _ :: _ :: _ :: _ :: _ :: ψ) rfl rfl ?_
                    refine JL_fieldAddrE fo55_1 rfl (by first | exact Reads.view (by repeat (first | with_reducible exact mm0 | refine mmS ?_)) | (exact Reads.own 0 rfl)) (by rw [scells_length]; omega) ?_
                    exact JL_nil (JE_stepV rfl ss0))), OblS_V (fun vals ex ψ => (by
                    refine JL_normQ ⟨113, [(86, _), (87, _), (88, _), (89, _), (90, _), (91, _), (92, _)], _⟩ (_ :: _ :: _ :: _ :: _ :: _ :: _ :: _ :: _ :: _ :: _ :: _ :: _ :: _ :: _ :: _ :: _ :: _ :: ψ) rfl rfl ?_
                    refine JL_loadEA (vs := [_, _, _]) ty26 (Nat.zero_lt_succ _) rfl (by first | exact Reads.view (by repeat (first | with_reducible exact mm0 | refine mmS ?_)) | (exact Reads.own 0 rfl)) (scells_hiA (by omega)) ?_
                    exact JL_nil (JE_stepV rfl ss0))), OblS_V (fun vals ex ψ => (by
                    refine JL_normQ ⟨113, [(86, _), (87, _), (88, _), (89, _), (90, _), (91, _), (92, _)], _⟩ (_ :: _ :: _ :: _ :: _ :: _ :: _ :: _ :: _ :: _ :: _ :: _ :: _ :: _ :: _ :: _ :: _ :: _ :: ψ) rfl rfl ?_
                    refine JL_fieldAddr fo55_1 rfl ?_
                    exact JL_nil (JE_stepV rfl ss0))), OblS_V (fun vals ex ψ => (by
                    refine JL_normQ ⟨113, [(86, _), (87, _), (88, _), (89, _), (90, _), (91, _), (92, _)], _⟩ (_ :: _ :: _ :: _ :: _ :: _ :: _ :: _ :: _ :: _ :: _ :: _ :: _ :: _ :: _ :: _ :: _ :: _ :: ψ) rfl rfl ?_
                    refine JL_loadA (vs := [_, _, _]) 1 ty26 rfl rfl ⟨rfl, rfl, rfl, trivial⟩ ?_
                    exact JL_nil (JE_stepV rfl ss0))), trivial⟩ (by kernel_rfl) (fun vals bs => ?_)
                refine JL_normL [_, _] ⟨113, [(86, _), (87, _), (88, _), (89, _), (90, _), (91, _), (92, _)], _⟩ [osl _ _ _ _ _ _, box _ _ [_, _, _, _, _, _]] [_, _, _, _, _, _, _, _, _, _, _, _, _, _, _, _, _, _] rfl rfl rfl rfl ?_
                refine JL_callF' (Asks.cons (by first | exact holds_of_mem (by repeat (first | with_reducible exact mm0 | refine mmS ?_)) | (exact holds_of_own 0 rfl)) (Asks.cons (by first | exact holds_of_mem (by repeat (first | with_reducible exact mm0 | refine mmS ?_)) | (exact holds_of_own 0 rfl)) (Asks.cons (by first | exact holds_of_mem (by repeat (first | with_reducible exact mm0 | refine mmS ?_)) | (exact holds_of_own 0 rfl)) (Asks.cons (by first | exact holds_of_mem (by repeat (first | with_reducible exact mm0 | refine mmS ?_)) | (exact holds_of_own 0 rfl)) Asks.nil)))) (rcmpq_con (FIn.some (hbo.2.mono (by decide))) (FIn.some (hbr.2.mono (by decide)))) rfl ca40 ⟨rfl, rfl, rfl⟩ ?_
                rintro _ _ ⟨rfl, rfl⟩
                refine JL_lss rfl rfl ?_
                refine JL_split (fun h94 => ?_) (fun h94 => ?_)
                · obtain ⟨zh, hzzh⟩ : ∃ z : Fe, (l52.getD b dS).hi = z := ⟨_, rfl⟩
                  rw [hzzh]
                  have hhi : (if (l52.getD b dS).hi.q < (r.getD a dS).hi.q then (l52.getD b dS).hi.q else (r.getD a dS).hi.q) = zh.q := by rw [if_pos (cmpQ_neg.1 h94), hzzh]
                  have hqh : qs zh.q 3 := by rw [← hzzh]; exact hbo.2
                  refine JL_done_up 113 [osl _ _ _ _ _ _, box _ _ [_, _, _, _, _, _]] [_, _, _, _, _, _, _, _, _, _, _, _, _, _, _, _, _, _] rfl rfl (by simp only [nrmF]; rfl) rfl rfl ?_
                  refine JC_true rfl ?_
                  refine JC_region ?_
                  refine JL_move rfl ?_
                  refine JL_move rfl ?_
                  refine JL_indexAddr b sl43 rfl rfl rfl (by omega) (by first | exact Reads.view (by repeat (first | with_reducible exact mm0 | refine mmS ?_)) | (exact Reads.own 0 rfl)) (by rw [scells_length]; omega) ?_
                  refine JL_fieldAddrE fo55_1 rfl (by first | exact Reads.view (by repeat (first | with_reducible exact mm0 | refine mmS ?_)) | (exact Reads.own 0 rfl)) (by rw [scells_length]; omega) ?_
                  refine JL_loadEA (vs := [_, _, _]) ty26 (Nat.zero_lt_succ _) rfl (by first | exact Reads.view (by repeat (first | with_reducible exact mm0 | refine mmS ?_)) | (exact Reads.own 0 rfl)) (scells_hiA (by omega)) ?_
                  rw [hzzh]
                  refine JL_fieldAddr fo55_1 rfl ?_
                  refine JL_store (vs := [_, _, _]) 1 ty26 rfl rfl rfl (AllOne.cons rfl (AllOne.cons rfl (AllOne.cons rfl AllOne.nil))) rfl (Nat.le_of_ble_eq_true rfl) ?_
                  refine JL_done_up 113 [osl _ _ _ _ _ _, box _ _ [_, _, _, _, _, _]] [_, _, _, _, _, _, _, _, _, _, _, _, _, _, _, _, _, _] rfl rfl (by simp only [nrmF]; rfl) rfl rfl ?_
                  refine JC_seq ?_
                  refine JC_region ?_
                  refine JL_fieldAddr fo55_0 rfl ?_
                  refine JL_loadA (vs := [_, _, _]) 1 ty26 rfl rfl ⟨rfl, rfl, rfl, trivial⟩ ?_
                  refine JL_fieldAddr fo55_1 rfl ?_
                  refine JL_loadA (vs := [_, _, _]) 1 ty26 rfl rfl ⟨rfl, rfl, rfl, trivial⟩ ?_
                  refine JL_callF' (Asks.cons (by first | exact holds_of_mem (by repeat (first | with_reducible exact mm0 | refine mmS ?_)) | (exact holds_of_own 0 rfl)) (Asks.cons (by first | exact holds_of_mem (by repeat (first | with_reducible exact mm0 | refine mmS ?_)) | (exact holds_of_own 0 rfl)) (Asks.cons (by first | exact holds_of_mem (by repeat (first | with_reducible exact mm0 | refine mmS ?_)) | (exact holds_of_own 0 rfl)) (Asks.cons (by first | exact holds_of_mem (by repeat (first | with_reducible exact mm0 | refine mmS ?_)) | (exact holds_of_own 0 rfl)) Asks.nil)))) (rcmpq_con (FIn.some (hql.mono (by decide))) (FIn.some (hqh.mono (by decide)))) rfl ca40 ⟨rfl, rfl, rfl⟩ ?_
                  rintro _ _ ⟨rfl, rfl⟩
                  refine JL_leq rfl rfl ?_
                  refine JL_split (fun h106 => ?_) (fun h106 => ?_)
                  · have hle : zl.q ≤ zh.q := cmpQ_le.1 h106
                    refine JL_done_up 113 [osl _ _ _ _ _ _, box _ _ [_, _, _, _, _, _]] [_, _, _, _, _, _, _, _, _, _, _, _, _, _, _, _, _, _] rfl rfl (by simp only [nrmF]; rfl) rfl rfl ?_
                    refine JC_true rfl ?_
                    refine JC_region ?_
                    refine JL_move rfl ?_
                    refine JL_loadA (vs := [_, _, _, _, _, _]) 1 ty55 rfl rfl ⟨rfl, rfl, rfl, rfl, rfl, rfl, trivial⟩ ?_
                    refine JL_buildN (cs0 := [.bool false, .slice none 0 0, .slice none 0 0, .bool false, .slice none 0 0, .slice none 0 0]) (cs := [_, _, _, _, _, _]) [(0, [_, _, _, _, _, _])] sl43 (by kernel_rfl) ⟨⟨rfl, _, rfl, rfl⟩, rfl⟩ rfl rfl rfl rfl (fun g109 => ?_)
                    refine JL_append (news := [_, _, _, _, _, _]) 0 sl43 rfl (by decide) rfl rfl rfl rfl (Reads.own 2 rfl) (AllOne.cons rfl (AllOne.cons rfl (AllOne.cons rfl (AllOne.cons rfl (AllOne.cons rfl (AllOne.cons rfl AllOne.nil)))))) (by omega) (by omega) (fun ad110 cap110 hc110 => ?_)
                    refine JL_dropAt 2 ?_
                    refine JL_norm _ [osl _ _ _ _ _ _, box _ _ [_, _, _, _, _, _]] [_, _, _, _, _, _, _, _, _, _, _, _, _, _, _, _, _, _] rfl rfl rfl ?_
                    rw [show scells r3 ++ sc ⟨zl, zh⟩ = scells (r3 ++ [⟨zl, zh⟩]) from scells_snoc r3 _]
                    refine JL_sesSnoc (f := true) (l := r3) ⟨zl, zh⟩ (by repeat (first | with_reducible exact mm0 | refine mmS ?_)) (by repeat (first | with_reducible exact mm0 | refine mmS ?_)) (by repeat (first | with_reducible exact mm0 | refine mmS ?_)) (by repeat (first | with_reducible exact mm0 | refine mmS ?_)) (by repeat (first | with_reducible exact mm0 | refine mmS ?_)) ?_
                    refine JL_assign rfl ?_
                    refine JL_nil_up 113 [osl _ _ _ _ _ _, box _ _ [_, _, _, _, _, _]] [_, _, _, _, _, _, _, _, _, _, _, _, _, _, _, _, _, _, _] rfl rfl (by simp only [nrmF]; rfl) rfl rfl ?_
                    refine JE_block_normal ?_
                    refine JE_then ?_
                    subst hzzl
                    subst hzzh
                    refine JC_region ?_
                    refine JL_move rfl ?_
                    refine JL_add_to rfl rfl (IntWalk.i64_in _ (by omega)) ?_
                    refine JL_assign rfl ?_
                    refine JL_nil_up 113 [osl _ _ _ _ _ _, box _ _ [_, _, _, _, _, _]] [_, _, _, _, _, _, _, _, _, _, _, _, _, _, _, _, _, _, _] rfl rfl (by simp only [nrmF]; rfl) rfl rfl ?_
                    refine JE_dropAt 1 ?_
                    refine JE_norm _ [osl _ _ _ _ _ _] [_, _, _, _, _, _, _, _, _, _, _, _, _, _, _, _, _, _, _] rfl rfl rfl ?_
                    refine JE_nextS (b + 1, r3 ++ [⟨(l52.getD b dS).lo, (l52.getD b dS).hi⟩], ad110, cap110, n3 + 1) (by kernel_rfl) ?_ ?_ (by kernel_rfl) ?_
                    · exact ⟨by omega, meetI_add hr3 hlo hhi hle, by rw [List.length_append, hn3]; rfl⟩
                    · first | omega | (dsimp only; omega)
                    · exact subset_app (subset_cons (by repeat (first | with_reducible exact mm0 | refine mmS ?_)) subset_nil) (ssS (ssS (ssS (ssS (ssS (ssS (ssS (ssS (ssS (ssS ss0))))))))))
                  · have hle : ¬ zl.q ≤ zh.q := fun e => h106 (cmpQ_le.2 e)
                    refine JL_done_up 113 [osl _ _ _ _ _ _, box _ _ [_, _, _, _, _, _]] [_, _, _, _, _, _, _, _, _, _, _, _, _, _, _, _, _, _] rfl rfl (by simp only [nrmF]; rfl) rfl rfl ?_
                    refine JC_false rfl ?_
                    refine JC_skip ?_
                    refine JE_block_normal ?_
                    refine JE_then ?_
                    subst hzzl
                    subst hzzh
                    refine JC_region ?_
                    refine JL_move rfl ?_
                    refine JL_add_to rfl rfl (IntWalk.i64_in _ (by omega)) ?_
                    refine JL_assign rfl ?_
                    refine JL_nil_up 113 [osl _ _ _ _ _ _, box _ _ [_, _, _, _, _, _]] [_, _, _, _, _, _, _, _, _, _, _, _, _, _, _, _, _, _] rfl rfl (by simp only [nrmF]; rfl) rfl rfl ?_
                    refine JE_dropAt 1 ?_
                    refine JE_norm _ [osl _ _ _ _ _ _] [_, _, _, _, _, _, _, _, _, _, _, _, _, _, _, _, _, _] rfl rfl rfl ?_
                    refine JE_nextS (b + 1, r3, ad3, cap3, n3) (by kernel_rfl) ?_ ?_ (by kernel_rfl) ?_
                    · exact ⟨by omega, meetI_keep hr3 hlo hhi hle, hn3⟩
                    · first | omega | (dsimp only; omega)
                    · exact subset_app (subset_cons (by repeat (first | with_reducible exact mm0 | refine mmS ?_)) subset_nil) (ssS (ssS (ssS (ssS (ssS (ssS (ssS (ssS (ssS ss0)))))))))
                · obtain ⟨zh, hzzh⟩ : ∃ z : Fe, (r.getD a dS).hi = z := ⟨_, rfl⟩
                  rw [hzzh]
                  have hhi : (if (l52.getD b dS).hi.q < (r.getD a dS).hi.q then (l52.getD b dS).hi.q else (r.getD a dS).hi.q) = zh.q := by rw [if_neg (fun e => h94 (cmpQ_neg.2 e)), hzzh]
                  have hqh : qs zh.q 3 := by rw [← hzzh]; exact hbr.2
                  refine JL_done_up 113 [osl _ _ _ _ _ _, box _ _ [_, _, _, _, _, _]] [_, _, _, _, _, _, _, _, _, _, _, _, _, _, _, _, _, _] rfl rfl (by simp only [nrmF]; rfl) rfl rfl ?_
                  refine JC_false rfl ?_
                  refine JC_skip ?_
                  refine JE_then ?_
                  refine JC_seq ?_
                  refine JC_region ?_
                  refine JL_fieldAddr fo55_0 rfl ?_
                  refine JL_loadA (vs := [_, _, _]) 1 ty26 rfl rfl ⟨rfl, rfl, rfl, trivial⟩ ?_
                  refine JL_fieldAddr fo55_1 rfl ?_
                  refine JL_loadA (vs := [_, _, _]) 1 ty26 rfl rfl ⟨rfl, rfl, rfl, trivial⟩ ?_
                  refine JL_callF' (Asks.cons (by first | exact holds_of_mem (by repeat (first | with_reducible exact mm0 | refine mmS ?_)) | (exact holds_of_own 0 rfl)) (Asks.cons (by first | exact holds_of_mem (by repeat (first | with_reducible exact mm0 | refine mmS ?_)) | (exact holds_of_own 0 rfl)) (Asks.cons (by first | exact holds_of_mem (by repeat (first | with_reducible exact mm0 | refine mmS ?_)) | (exact holds_of_own 0 rfl)) (Asks.cons (by first | exact holds_of_mem (by repeat (first | with_reducible exact mm0 | refine mmS ?_)) | (exact holds_of_own 0 rfl)) Asks.nil)))) (rcmpq_con (FIn.some (hql.mono (by decide))) (FIn.some (hqh.mono (by decide)))) rfl ca40 ⟨rfl, rfl, rfl⟩ ?_
                  rintro _ _ ⟨rfl, rfl⟩
                  refine JL_leq rfl rfl ?_
                  refine JL_split (fun h106 => ?_) (fun h106 => ?_)
                  · have hle : zl.q ≤ zh.q := cmpQ_le.1 h106
                    refine JL_done_up 113 [osl _ _ _ _ _ _, box _ _ [_, _, _, _, _, _]] [_, _, _, _, _, _, _, _, _, _, _, _, _, _, _, _, _, _] rfl rfl (by simp only [nrmF]; rfl) rfl rfl ?_
                    refine JC_true rfl ?_
                    refine JC_region ?_
                    refine JL_move rfl ?_
                    refine JL_loadA (vs := [_, _, _, _, _, _]) 1 ty55 rfl rfl ⟨rfl, rfl, rfl, rfl, rfl, rfl, trivial⟩ ?_
                    refine JL_buildN (cs0 := [.bool false, .slice none 0 0, .slice none 0 0, .bool false, .slice none 0 0, .slice none 0 0]) (cs := [_, _, _, _, _, _]) [(0, [_, _, _, _, _, _])] sl43 (by kernel_rfl) ⟨⟨rfl, _, rfl, rfl⟩, rfl⟩ rfl rfl rfl rfl (fun g109 => ?_)
                    refine JL_append (news := [_, _, _, _, _, _]) 0 sl43 rfl (by decide) rfl rfl rfl rfl (Reads.own 2 rfl) (AllOne.cons rfl (AllOne.cons rfl (AllOne.cons rfl (AllOne.cons rfl (AllOne.cons rfl (AllOne.cons rfl AllOne.nil)))))) (by omega) (by omega) (fun ad110 cap110 hc110 => ?_)
                    refine JL_dropAt 2 ?_
                    refine JL_norm _ [osl _ _ _ _ _ _, box _ _ [_, _, _, _, _, _]] [_, _, _, _, _, _, _, _, _, _, _, _, _, _, _, _, _, _] rfl rfl rfl ?_
                    rw [show scells r3 ++ sc ⟨zl, zh⟩ = scells (r3 ++ [⟨zl, zh⟩]) from scells_snoc r3 _]
                    refine JL_sesSnoc (f := true) (l := r3) ⟨zl, zh⟩ (by repeat (first | with_reducible exact mm0 | refine mmS ?_)) (by repeat (first | with_reducible exact mm0 | refine mmS ?_)) (by repeat (first | with_reducible exact mm0 | refine mmS ?_)) (by repeat (first | with_reducible exact mm0 | refine mmS ?_)) (by repeat (first | with_reducible exact mm0 | refine mmS ?_)) ?_
                    refine JL_assign rfl ?_
                    refine JL_nil_up 113 [osl _ _ _ _ _ _, box _ _ [_, _, _, _, _, _]] [_, _, _, _, _, _, _, _, _, _, _, _, _, _, _, _, _, _, _] rfl rfl (by simp only [nrmF]; rfl) rfl rfl ?_
                    refine JE_block_normal ?_
                    refine JE_then ?_
                    subst hzzl
                    subst hzzh
                    refine JC_region ?_
                    refine JL_move rfl ?_
                    refine JL_add_to rfl rfl (IntWalk.i64_in _ (by omega)) ?_
                    refine JL_assign rfl ?_
                    refine JL_nil_up 113 [osl _ _ _ _ _ _, box _ _ [_, _, _, _, _, _]] [_, _, _, _, _, _, _, _, _, _, _, _, _, _, _, _, _, _, _] rfl rfl (by simp only [nrmF]; rfl) rfl rfl ?_
                    refine JE_dropAt 1 ?_
                    refine JE_norm _ [osl _ _ _ _ _ _] [_, _, _, _, _, _, _, _, _, _, _, _, _, _, _, _, _, _, _] rfl rfl rfl ?_
                    refine JE_nextS (b + 1, r3 ++ [⟨(l52.getD b dS).lo, (r.getD a dS).hi⟩], ad110, cap110, n3 + 1) (by kernel_rfl) ?_ ?_ (by kernel_rfl) ?_
                    · exact ⟨by omega, meetI_add hr3 hlo hhi hle, by rw [List.length_append, hn3]; rfl⟩
                    · first | omega | (dsimp only; omega)
                    · exact subset_app (subset_cons (by repeat (first | with_reducible exact mm0 | refine mmS ?_)) subset_nil) (ssS (ssS (ssS (ssS (ssS (ssS (ssS (ssS (ssS (ssS ss0))))))))))
                  · have hle : ¬ zl.q ≤ zh.q := fun e => h106 (cmpQ_le.2 e)
                    refine JL_done_up 113 [osl _ _ _ _ _ _, box _ _ [_, _, _, _, _, _]] [_, _, _, _, _, _, _, _, _, _, _, _, _, _, _, _, _, _] rfl rfl (by simp only [nrmF]; rfl) rfl rfl ?_
                    refine JC_false rfl ?_
                    refine JC_skip ?_
                    refine JE_block_normal ?_
                    refine JE_then ?_
                    subst hzzl
                    subst hzzh
                    refine JC_region ?_
                    refine JL_move rfl ?_
                    refine JL_add_to rfl rfl (IntWalk.i64_in _ (by omega)) ?_
                    refine JL_assign rfl ?_
                    refine JL_nil_up 113 [osl _ _ _ _ _ _, box _ _ [_, _, _, _, _, _]] [_, _, _, _, _, _, _, _, _, _, _, _, _, _, _, _, _, _] rfl rfl (by simp only [nrmF]; rfl) rfl rfl ?_
                    refine JE_dropAt 1 ?_
                    refine JE_norm _ [osl _ _ _ _ _ _] [_, _, _, _, _, _, _, _, _, _, _, _, _, _, _, _, _, _] rfl rfl rfl ?_
                    refine JE_nextS (b + 1, r3, ad3, cap3, n3) (by kernel_rfl) ?_ ?_ (by kernel_rfl) ?_
                    · exact ⟨by omega, meetI_keep hr3 hlo hhi hle, hn3⟩
                    · first | omega | (dsimp only; omega)
                    · exact subset_app (subset_cons (by repeat (first | with_reducible exact mm0 | refine mmS ?_)) subset_nil) (ssS (ssS (ssS (ssS (ssS (ssS (ssS (ssS (ssS ss0)))))))))
              · obtain ⟨zl, hzzl⟩ : ∃ z : Fe, (r.getD a dS).lo = z := ⟨_, rfl⟩
                rw [hzzl]
                have hlo : (if (r.getD a dS).lo.q < (l52.getD b dS).lo.q then (l52.getD b dS).lo.q else (r.getD a dS).lo.q) = zl.q := by rw [if_neg (fun e => h79 (cmpQ_pos.2 e)), hzzl]
                have hql : qs zl.q 3 := by rw [← hzzl]; exact hbr.1
                refine JL_done_up 113 [osl _ _ _ _ _ _, box _ _ [_, _, _, _, _, _]] [_, _, _, _, _, _, _, _, _, _, _, _, _, _, _, _, _, _] rfl rfl (by simp only [nrmF]; rfl) rfl rfl ?_
                refine JC_false rfl ?_
                refine JC_skip ?_
                refine JE_then ?_
                refine JC_seq ?_
                refine JC_seq ?_
                refine JC_drawT mixed 7 [spV 86 [] _, spV 87 [] _, spV 88 [0, 1] _, spV 89 [2] _, spV 90 [3] _, spV 91 [] _, spV 92 [5] _] ⟨OblS_V (fun vals ex ψ => (by
                    refine JL_normQ ⟨113, [(86, _), (87, _), (88, _), (89, _), (90, _), (91, _), (92, _)], _⟩ (_ :: _ :: _ :: _ :: _ :: _ :: _ :: _ :: _ :: _ :: _ :: _ :: _ :: _ :: _ :: _ :: _ :: _ :: ψ) rfl rfl ?_
                    refine JL_move rfl ?_
                    exact JL_nil (JE_stepV rfl ss0))), OblS_V (fun vals ex ψ => (by
                    refine JL_normQ ⟨113, [(86, _), (87, _), (88, _), (89, _), (90, _), (91, _), (92, _)], _⟩ (_ :: _ :: _ :: _ :: _ :: _ :: _ :: _ :: _ :: _ :: _ :: _ :: _ :: _ :: _ :: _ :: _ :: _ :: ψ) rfl rfl ?_
                    refine JL_move rfl ?_
                    exact JL_nil (JE_stepV rfl ss0))), OblS_V (fun vals ex ψ => (by
                    refine JL_normQ ⟨113, [(86, _), (87, _), (88, _), (89, _), (90, _), (91, _), (92, _)], _⟩ (_ :: _ :: _ :: _ :: _ :: _ :: _ :: _ :: _ :: _ :: _ :: _ :: _ :: _ :: _ :: _ :: _ :: _ :: ψ) rfl rfl ?_
                    refine JL_indexAddr b sl43 rfl rfl rfl (by omega) (by first | exact Reads.view (by repeat (first | with_reducible exact mm0 | refine mmS ?_)) | (exact Reads.own 0 rfl)) (by rw [scells_length]; omega) ?_
                    exact JL_nil (JE_stepV rfl ss0))), OblS_V (fun vals ex ψ => (by
                    refine JL_normQ ⟨113, [(86, _), (87, _), (88, _), (89, _), (90, _), (91, _), (92, _)], _⟩ (_ :: _ :: _ :: _ :: _ :: _ :: _ :: _ :: _ :: _ :: _ :: _ :: _ :: _ :: _ :: _ :: _ :: _ :: ψ) rfl rfl ?_
                    refine JL_fieldAddrE fo55_1 rfl (by first | exact Reads.view (by repeat (first | with_reducible exact mm0 | refine mmS ?_)) | (exact Reads.own 0 rfl)) (by rw [scells_length]; omega) ?_
                    exact JL_nil (JE_stepV rfl ss0))), OblS_V (fun vals ex ψ => (by
                    refine JL_normQ ⟨113, [(86, _), (87, _), (88, _), (89, _), (90, _), (91, _), (92, _)], _⟩ (_ :: _ :: _ :: _ :: _ :: _ :: _ :: _ :: _ :: _ :: _ :: _ :: _ :: _ :: _ :: _ :: _ :: _ :: ψ) rfl rfl ?_
                    refine JL_loadEA (vs := [_, _, _]) ty26 (Nat.zero_lt_succ _) rfl (by first | exact Reads.view (by repeat (first | with_reducible exact mm0 | refine mmS ?_)) | (exact Reads.own 0 rfl)) (scells_hiA (by omega)) ?_
                    exact JL_nil (JE_stepV rfl ss0))), OblS_V (fun vals ex ψ => (by
                    refine JL_normQ ⟨113, [(86, _), (87, _), (88, _), (89, _), (90, _), (91, _), (92, _)], _⟩ (_ :: _ :: _ :: _ :: _ :: _ :: _ :: _ :: _ :: _ :: _ :: _ :: _ :: _ :: _ :: _ :: _ :: _ :: ψ) rfl rfl ?_
                    refine JL_fieldAddr fo55_1 rfl ?_
                    exact JL_nil (JE_stepV rfl ss0))), OblS_V (fun vals ex ψ => (by
                    refine JL_normQ ⟨113, [(86, _), (87, _), (88, _), (89, _), (90, _), (91, _), (92, _)], _⟩ (_ :: _ :: _ :: _ :: _ :: _ :: _ :: _ :: _ :: _ :: _ :: _ :: _ :: _ :: _ :: _ :: _ :: _ :: ψ) rfl rfl ?_
                    refine JL_loadA (vs := [_, _, _]) 1 ty26 rfl rfl ⟨rfl, rfl, rfl, trivial⟩ ?_
                    exact JL_nil (JE_stepV rfl ss0))), trivial⟩ (by kernel_rfl) (fun vals bs => ?_)
                refine JL_normL [_, _] ⟨113, [(86, _), (87, _), (88, _), (89, _), (90, _), (91, _), (92, _)], _⟩ [osl _ _ _ _ _ _, box _ _ [_, _, _, _, _, _]] [_, _, _, _, _, _, _, _, _, _, _, _, _, _, _, _, _, _] rfl rfl rfl rfl ?_
                refine JL_callF' (Asks.cons (by first | exact holds_of_mem (by repeat (first | with_reducible exact mm0 | refine mmS ?_)) | (exact holds_of_own 0 rfl)) (Asks.cons (by first | exact holds_of_mem (by repeat (first | with_reducible exact mm0 | refine mmS ?_)) | (exact holds_of_own 0 rfl)) (Asks.cons (by first | exact holds_of_mem (by repeat (first | with_reducible exact mm0 | refine mmS ?_)) | (exact holds_of_own 0 rfl)) (Asks.cons (by first | exact holds_of_mem (by repeat (first | with_reducible exact mm0 | refine mmS ?_)) | (exact holds_of_own 0 rfl)) Asks.nil)))) (rcmpq_con (FIn.some (hbo.2.mono (by decide))) (FIn.some (hbr.2.mono (by decide)))) rfl ca40 ⟨rfl, rfl, rfl⟩ ?_
                rintro _ _ ⟨rfl, rfl⟩
                refine JL_lss rfl rfl ?_
                refine JL_split (fun h94 => ?_) (fun h94 => ?_)
                · obtain ⟨zh, hzzh⟩ : ∃ z : Fe, (l52.getD b dS).hi = z := ⟨_, rfl⟩
                  rw [hzzh]
                  have hhi : (if (l52.getD b dS).hi.q < (r.getD a dS).hi.q then (l52.getD b dS).hi.q else (r.getD a dS).hi.q) = zh.q := by rw [if_pos (cmpQ_neg.1 h94), hzzh]
                  have hqh : qs zh.q 3 := by rw [← hzzh]; exact hbo.2
                  refine JL_done_up 113 [osl _ _ _ _ _ _, box _ _ [_, _, _, _, _, _]] [_, _, _, _, _, _, _, _, _, _, _, _, _, _, _, _, _, _] rfl rfl (by simp only [nrmF]; rfl) rfl rfl ?_
                  refine JC_true rfl ?_
                  refine JC_region ?_
                  refine JL_move rfl ?_
                  refine JL_move rfl ?_
                  refine JL_indexAddr b sl43 rfl rfl rfl (by omega) (by first | exact Reads.view (by repeat (first | with_reducible exact mm0 | refine mmS ?_)) | (exact Reads.own 0 rfl)) (by rw [scells_length]; omega) ?_
                  refine JL_fieldAddrE fo55_1 rfl (by first | exact Reads.view (by repeat (first | with_reducible exact mm0 | refine mmS ?_)) | (exact Reads.own 0 rfl)) (by rw [scells_length]; omega) ?_
                  refine JL_loadEA (vs := [_, _, _]) ty26 (Nat.zero_lt_succ _) rfl (by first | exact Reads.view (by repeat (first | with_reducible exact mm0 | refine mmS ?_)) | (exact Reads.own 0 rfl)) (scells_hiA (by omega)) ?_
                  rw [hzzh]
                  refine JL_fieldAddr fo55_1 rfl ?_
                  refine JL_store (vs := [_, _, _]) 1 ty26 rfl rfl rfl (AllOne.cons rfl (AllOne.cons rfl (AllOne.cons rfl AllOne.nil))) rfl (Nat.le_of_ble_eq_true rfl) ?_
                  refine JL_done_up 113 [osl _ _ _ _ _ _, box _ _ [_, _, _, _, _, _]] [_, _, _, _, _, _, _, _, _, _, _, _, _, _, _, _, _, _] rfl rfl (by simp only [nrmF]; rfl) rfl rfl ?_
                  refine JC_seq ?_
                  refine JC_region ?_
                  refine JL_fieldAddr fo55_0 rfl ?_
                  refine JL_loadA (vs := [_, _, _]) 1 ty26 rfl rfl ⟨rfl, rfl, rfl, trivial⟩ ?_
                  refine JL_fieldAddr fo55_1 rfl ?_
                  refine JL_loadA (vs := [_, _, _]) 1 ty26 rfl rfl ⟨rfl, rfl, rfl, trivial⟩ ?_
                  refine JL_callF' (Asks.cons (by first | exact holds_of_mem (by repeat (first | with_reducible exact mm0 | refine mmS ?_)) | (exact holds_of_own 0 rfl)) (Asks.cons (by first | exact holds_of_mem (by repeat (first | with_reducible exact mm0 | refine mmS ?_)) | (exact holds_of_own 0 rfl)) (Asks.cons (by first | exact holds_of_mem (by repeat (first | with_reducible exact mm0 | refine mmS ?_)) | (exact holds_of_own 0 rfl)) (Asks.cons (by first | exact holds_of_mem (by repeat (first | with_reducible exact mm0 | refine mmS ?_)) | (exact holds_of_own 0 rfl)) Asks.nil)))) (rcmpq_con (FIn.some (hql.mono (by decide))) (FIn.some (hqh.mono (by decide)))) rfl ca40 ⟨rfl, rfl, rfl⟩ ?_
                  rintro _ _ ⟨rfl, rfl⟩
                  refine JL_leq rfl rfl ?_
                  refine JL_split (fun h106 => ?_) (fun h106 => ?_)
                  · have hle : zl.q ≤ zh.q := cmpQ_le.1 h106
                    refine JL_done_up 113 [osl _ _ _ _ _ _, box _ _ [_, _, _, _, _, _]] [_, _, _, _, _, _, _, _, _, _, _, _, _, _, _, _, _, _] rfl rfl (by simp only [nrmF]; rfl) rfl rfl ?_
                    refine JC_true rfl ?_
                    refine JC_region ?_
                    refine JL_move rfl ?_
                    refine JL_loadA (vs := [_, _, _, _, _, _]) 1 ty55 rfl rfl ⟨rfl, rfl, rfl, rfl, rfl, rfl, trivial⟩ ?_
                    refine JL_buildN (cs0 := [.bool false, .slice none 0 0, .slice none 0 0, .bool false, .slice none 0 0, .slice none 0 0]) (cs := [_, _, _, _, _, _]) [(0, [_, _, _, _, _, _])] sl43 (by kernel_rfl) ⟨⟨rfl, _, rfl, rfl⟩, rfl⟩ rfl rfl rfl rfl (fun g109 => ?_)
                    refine JL_append (news := [_, _, _, _, _, _]) 0 sl43 rfl (by decide) rfl rfl rfl rfl (Reads.own 2 rfl) (AllOne.cons rfl (AllOne.cons rfl (AllOne.cons rfl (AllOne.cons rfl (AllOne.cons rfl (AllOne.cons rfl AllOne.nil)))))) (by omega) (by omega) (fun ad110 cap110 hc110 => ?_)
                    refine JL_dropAt 2 ?_
                    refine JL_norm _ [osl _ _ _ _ _ _, box _ _ [_, _, _, _, _, _]] [_, _, _, _, _, _, _, _, _, _, _, _, _, _, _, _, _, _] rfl rfl rfl ?_
                    rw [show scells r3 ++ sc ⟨zl, zh⟩ = scells (r3 ++ [⟨zl, zh⟩]) from scells_snoc r3 _]
                    refine JL_sesSnoc (f := true) (l := r3) ⟨zl, zh⟩ (by repeat (first | with_reducible exact mm0 | refine mmS ?_)) (by repeat (first | with_reducible exact mm0 | refine mmS ?_)) (by repeat (first | with_reducible exact mm0 | refine mmS ?_)) (by repeat (first | with_reducible exact mm0 | refine mmS ?_)) (by repeat (first | with_reducible exact mm0 | refine mmS ?_)) ?_
                    refine JL_assign rfl ?_
                    refine JL_nil_up 113 [osl _ _ _ _ _ _, box _ _ [_, _, _, _, _, _]] [_, _, _, _, _, _, _, _, _, _, _, _, _, _, _, _, _, _, _] rfl rfl (by simp only [nrmF]; rfl) rfl rfl ?_
                    refine JE_block_normal ?_
                    refine JE_then ?_
                    subst hzzl
                    subst hzzh
                    refine JC_region ?_
                    refine JL_move rfl ?_
                    refine JL_add_to rfl rfl (IntWalk.i64_in _ (by omega)) ?_
                    refine JL_assign rfl ?_
                    refine JL_nil_up 113 [osl _ _ _ _ _ _, box _ _ [_, _, _, _, _, _]] [_, _, _, _, _, _, _, _, _, _, _, _, _, _, _, _, _, _, _] rfl rfl (by simp only [nrmF]; rfl) rfl rfl ?_
                    refine JE_dropAt 1 ?_
                    refine JE_norm _ [osl _ _ _ _ _ _] [_, _, _, _, _, _, _, _, _, _, _, _, _, _, _, _, _, _, _] rfl rfl rfl ?_
                    refine JE_nextS (b + 1, r3 ++ [⟨(r.getD a dS).lo, (l52.getD b dS).hi⟩], ad110, cap110, n3 + 1) (by kernel_rfl) ?_ ?_ (by kernel_rfl) ?_
                    · exact ⟨by omega, meetI_add hr3 hlo hhi hle, by rw [List.length_append, hn3]; rfl⟩
                    · first | omega | (dsimp only; omega)
                    · exact subset_app (subset_cons (by repeat (first | with_reducible exact mm0 | refine mmS ?_)) subset_nil) (ssS (ssS (ssS (ssS (ssS (ssS (ssS (ssS (ssS (ssS ss0))))))))))
                  · have hle : ¬ zl.q ≤ zh.q := fun e => h106 (cmpQ_le.2 e)
                    refine JL_done_up 113 [osl _ _ _ _ _ _, box _ _ [_, _, _, _, _, _]] [_, _, _, _, _, _, _, _, _, _, _, _, _, _, _, _, _, _] rfl rfl (by simp only [nrmF]; rfl) rfl rfl ?_
                    refine JC_false rfl ?_
                    refine JC_skip ?_
                    refine JE_block_normal ?_
                    refine JE_then ?_
                    subst hzzl
                    subst hzzh
                    refine JC_region ?_
                    refine JL_move rfl ?_
                    refine JL_add_to rfl rfl (IntWalk.i64_in _ (by omega)) ?_
                    refine JL_assign rfl ?_
                    refine JL_nil_up 113 [osl _ _ _ _ _ _, box _ _ [_, _, _, _, _, _]] [_, _, _, _, _, _, _, _, _, _, _, _, _, _, _, _, _, _] rfl rfl (by simp only [nrmF]; rfl) rfl rfl ?_
                    refine JE_dropAt 1 ?_
                    refine JE_norm _ [osl _ _ _ _ _ _] [_, _, _, _, _, _, _, _, _, _, _, _, _, _, _, _, _, _] rfl rfl rfl ?_
                    refine JE_nextS (b + 1, r3, ad3, cap3, n3) (by kernel_rfl) ?_ ?_ (by kernel_rfl) ?_
                    · exact ⟨by omega, meetI_keep hr3 hlo hhi hle, hn3⟩
                    · first | omega | (dsimp only; omega)
                    · exact subset_app (subset_cons (by repeat (first | with_reducible exact mm0 | refine mmS ?_)) subset_nil) (ssS (ssS (ssS (ssS (ssS (ssS (ssS (ssS (ssS ss0)))))))))
                · obtain ⟨zh, hzzh⟩ : ∃ z : Fe, (r.getD a dS).hi = z := ⟨_, rfl⟩
                  rw [hzzh]
                  have hhi : (if (l52.getD b dS).hi.q < (r.getD a dS).hi.q then (l52.getD b dS).hi.q else (r.getD a dS).hi.q) = zh.q := by rw [if_neg (fun e => h94 (cmpQ_neg.2 e)), hzzh]
                  have hqh : qs zh.q 3 := by rw [← hzzh]; exact hbr.2
                  refine JL_done_up 113 [osl _ _ _ _ _ _, box _ _ [_, _, _, _, _, _]] [_, _, _, _, _, _, _, _, _, _, _, _, _, _, _, _, _, _] rfl rfl (by simp only [nrmF]; rfl) rfl rfl ?_
                  refine JC_false rfl ?_
                  refine JC_skip ?_
                  refine JE_then ?_
                  refine JC_seq ?_
                  refine JC_region ?_
                  refine JL_fieldAddr fo55_0 rfl ?_
                  refine JL_loadA (vs := [_, _, _]) 1 ty26 rfl rfl ⟨rfl, rfl, rfl, trivial⟩ ?_
                  refine JL_fieldAddr fo55_1 rfl ?_
                  refine JL_loadA (vs := [_, _, _]) 1 ty26 rfl rfl ⟨rfl, rfl, rfl, trivial⟩ ?_
                  refine JL_callF' (Asks.cons (by first | exact holds_of_mem (by repeat (first | with_reducible exact mm0 | refine mmS ?_)) | (exact holds_of_own 0 rfl)) (Asks.cons (by first | exact holds_of_mem (by repeat (first | with_reducible exact mm0 | refine mmS ?_)) | (exact holds_of_own 0 rfl)) (Asks.cons (by first | exact holds_of_mem (by repeat (first | with_reducible exact mm0 | refine mmS ?_)) | (exact holds_of_own 0 rfl)) (Asks.cons (by first | exact holds_of_mem (by repeat (first | with_reducible exact mm0 | refine mmS ?_)) | (exact holds_of_own 0 rfl)) Asks.nil)))) (rcmpq_con (FIn.some (hql.mono (by decide))) (FIn.some (hqh.mono (by decide)))) rfl ca40 ⟨rfl, rfl, rfl⟩ ?_
                  rintro _ _ ⟨rfl, rfl⟩
                  refine JL_leq rfl rfl ?_
                  refine JL_split (fun h106 => ?_) (fun h106 => ?_)
                  · have hle : zl.q ≤ zh.q := cmpQ_le.1 h106
                    refine JL_done_up 113 [osl _ _ _ _ _ _, box _ _ [_, _, _, _, _, _]] [_, _, _, _, _, _, _, _, _, _, _, _, _, _, _, _, _, _] rfl rfl (by simp only [nrmF]; rfl) rfl rfl ?_
                    refine JC_true rfl ?_
                    refine JC_region ?_
                    refine JL_move rfl ?_
                    refine JL_loadA (vs := [_, _, _, _, _, _]) 1 ty55 rfl rfl ⟨rfl, rfl, rfl, rfl, rfl, rfl, trivial⟩ ?_
                    refine JL_buildN (cs0 := [.bool false, .slice none 0 0, .slice none 0 0, .bool false, .slice none 0 0, .slice none 0 0]) (cs := [_, _, _, _, _, _]) [(0, [_, _, _, _, _, _])] sl43 (by kernel_rfl) ⟨⟨rfl, _, rfl, rfl⟩, rfl⟩ rfl rfl rfl rfl (fun g109 => ?_)
                    refine JL_append (news := [_, _, _, _, _, _]) 0 sl43 rfl (by decide) rfl rfl rfl rfl (Reads.own 2 rfl) (AllOne.cons rfl (AllOne.cons rfl (AllOne.cons rfl (AllOne.cons rfl (AllOne.cons rfl (AllOne.cons rfl AllOne.nil)))))) (by omega) (by omega) (fun ad110 cap110 hc110 => ?_)
                    refine JL_dropAt 2 ?_
                    refine JL_norm _ [osl _ _ _ _ _ _, box _ _ [_, _, _, _, _, _]] [_, _, _, _, _, _, _, _, _, _, _, _, _, _, _, _, _, _] rfl rfl rfl ?_
                    rw [show scells r3 ++ sc ⟨zl, zh⟩ = scells (r3 ++ [⟨zl, zh⟩]) from scells_snoc r3 _]
                    refine JL_sesSnoc (f := true) (l := r3) ⟨zl, zh⟩ (by repeat (first | with_reducible exact mm0 | refine mmS ?_)) (by repeat (first | with_reducible exact mm0 | refine mmS ?_)) (by repeat (first | with_reducible exact mm0 | refine mmS ?_)) (by repeat (first | with_reducible exact mm0 | refine mmS ?_)) (by repeat (first | with_reducible exact mm0 | refine mmS ?_)) ?_
                    refine JL_assign rfl ?_
                    refine JL_nil_up 113 [osl _ _ _ _ _ _, box _ _ [_, _, _, _, _, _]] [_, _, _, _, _, _, _, _, _, _, _, _, _, _, _, _, _, _, _] rfl rfl (by simp only [nrmF]; rfl) rfl rfl ?_
                    refine JE_block_normal ?_
                    refine JE_then ?_
                    subst hzzl
                    subst hzzh
                    refine JC_region ?_
                    refine JL_move rfl ?_
                    refine JL_add_to rfl rfl (IntWalk.i64_in _ (by omega)) ?_
                    refine JL_assign rfl ?_
                    refine JL_nil_up 113 [osl _ _ _ _ _ _, box _ _ [_, _, _, _, _, _]] [_, _, _, _, _, _, _, _, _, _, _, _, _, _, _, _, _, _, _] rfl rfl (by simp only [nrmF]; rfl) rfl rfl ?_
                    refine JE_dropAt 1 ?_
                    refine JE_norm _ [osl _ _ _ _ _ _] [_, _, _, _, _, _, _, _, _, _, _, _, _, _, _, _, _, _, _] rfl rfl rfl ?_
                    refine JE_nextS (b + 1, r3 ++ [⟨(r.getD a dS).lo, (r.getD a dS).hi⟩], ad110, cap110, n3 + 1) (by kernel_rfl) ?_ ?_ (by kernel_rfl) ?_
                    · exact ⟨by omega, meetI_add hr3 hlo hhi hle, by rw [List.length_append, hn3]; rfl⟩
                    · first | omega | (dsimp only; omega)
                    · exact subset_app (subset_cons (by repeat (first | with_reducible exact mm0 | refine mmS ?_)) subset_nil) (ssS (ssS (ssS (ssS (ssS (ssS (ssS (ssS (ssS (ssS ss0))))))))))
                  · have hle : ¬ zl.q ≤ zh.q := fun e => h106 (cmpQ_le.2 e)
                    refine JL_done_up 113 [osl _ _ _ _ _ _, box _ _ [_, _, _, _, _, _]] [_, _, _, _, _, _, _, _, _, _, _, _, _, _, _, _, _, _] rfl rfl (by simp only [nrmF]; rfl) rfl rfl ?_
                    refine JC_false rfl ?_
                    refine JC_skip ?_
                    refine JE_block_normal ?_
                    refine JE_then ?_
                    subst hzzl
                    subst hzzh
                    refine JC_region ?_
                    refine JL_move rfl ?_
                    refine JL_add_to rfl rfl (IntWalk.i64_in _ (by omega)) ?_
                    refine JL_assign rfl ?_
                    refine JL_nil_up 113 [osl _ _ _ _ _ _, box _ _ [_, _, _, _, _, _]] [_, _, _, _, _, _, _, _, _, _, _, _, _, _, _, _, _, _] rfl rfl (by simp only [nrmF]; rfl) rfl rfl ?_
                    refine JE_dropAt 1 ?_
                    refine JE_norm _ [osl _ _ _ _ _ _] [_, _, _, _, _, _, _, _, _, _, _, _, _, _, _, _, _, _] rfl rfl rfl ?_
                    refine JE_nextS (b + 1, r3, ad3, cap3, n3) (by kernel_rfl) ?_ ?_ (by kernel_rfl) ?_
                    · exact ⟨by omega, meetI_keep hr3 hlo hhi hle, hn3⟩
                    · first | omega | (dsimp only; omega)
                    · exact subset_app (subset_cons (by repeat (first | with_reducible exact mm0 | refine mmS ?_)) subset_nil) (ssS (ssS (ssS (ssS (ssS (ssS (ssS (ssS (ssS ss0)))))))))
            · refine JL_done_up 113 [osl _ _ _ _ _ _] [_, _, _, _, _, _, _, _, _, _] rfl rfl (by simp only [nrmF]; rfl) rfl rfl ?_
              refine JC_false rfl ?_
              refine JC_exit ?_
              refine JE_then_exit ?_
              refine JE_nextS_exit ?_
              refine JE_block_exit ?_
              refine JE_block_normal ?_
              refine JE_then ?_
              refine JC_region ?_
              refine JL_move rfl ?_
              refine JL_add_to rfl rfl (IntWalk.i64_in _ (by omega)) ?_
              refine JL_assign rfl ?_
              refine JL_nil_up 113 [osl _ _ _ _ _ _] [_, _, _, _, _, _, _, _, _, _] rfl rfl (by simp only [nrmF]; rfl) rfl rfl ?_
              refine JE_nextS (a + 1, r3, ad3, cap3, n3) (by kernel_rfl) ?_ ?_ (by kernel_rfl) ?_
              · exact ⟨by omega, by rw [hr3, show b = (l52.map Se.qq).length from by rw [List.length_map]; omega]; rfl, hn3⟩
              · first | omega | (dsimp only; omega)
              · exact subset_app (subset_cons (by repeat (first | with_reducible exact mm0 | refine mmS ?_)) subset_nil) (ssS (ssS ss0))
          · refine JL_done_up 113 [osl _ _ _ _ _ _] [_, _, _, _, _, _, _, _, _] rfl rfl (by simp only [nrmF]; rfl) rfl rfl ?_
            refine JC_false rfl ?_
            refine JC_exit ?_
            refine JE_then_exit ?_
            refine JE_nextS_exit ?_
            refine JE_block_exit ?_
            refine JE_then ?_
            refine JC_region ?_
            refine JL_move rfl ?_
            refine JL_assign rfl ?_
            refine JL_nil_up 113 [osl _ _ _ _ _ _] [_, _, _, _, _, _, _, _, _] rfl rfl (by simp only [nrmF]; rfl) rfl rfl ?_
            refine JE_block_normal ?_
            refine JE_then ?_
            refine JC_region ?_
            refine JL_move rfl ?_
            refine JL_add_to rfl rfl (IntWalk.i64_in _ (by omega)) ?_
            refine JL_assign rfl ?_
            refine JL_nil_up 113 [osl _ _ _ _ _ _] [_, _, _, _, _, _, _, _, _] rfl rfl (by simp only [nrmF]; rfl) rfl rfl ?_
            have hae : a = r.length := by omega
            subst hae
            subst hn2
            refine JE_give 0 rfl ?_
            refine JE_norm _ [] [_, _, _, _, _, _, _, _, _, _] rfl rfl rfl ?_
            refine JE_nextS (i + 1, r2, ad2, cap2) (by kernel_rfl) ?_ ?_ (by kernel_rfl) ?_
            · exact ⟨by omega, by omega, by rw [show i + 1 - 1 = (i - 1) + 1 from by omega]; exact comL_next hr (by rw [show i - 1 + 1 = i from by omega]; exact hl52) hr2⟩
            · first | omega | (dsimp only; omega)
            · exact subset_app (subset_cons (by repeat (first | with_reducible exact mm0 | refine mmS ?_)) (subset_cons (by repeat (first | with_reducible exact mm0 | refine mmS ?_)) subset_nil)) (ssS (ssS (ssS (ssS (ssS (ssS (ssS ss0)))))))
        · refine JL_done_up 113 [] [_, _, _, _, _] rfl rfl (by simp only [nrmF]; rfl) rfl rfl ?_
          refine JC_false rfl ?_
          refine JC_exit ?_
          refine JE_then_exit ?_
          refine JE_nextS_exit ?_
          refine JE_block_exit ?_
          refine JE_then ?_
          refine JC_seq ?_
          refine JC_region ?_
          refine JL_move rfl ?_
          refine JL_assign rfl ?_
          refine JL_assign rfl ?_
          refine JL_done_up 113 [] [_, _, _, _, _] rfl rfl (by simp only [nrmF]; rfl) rfl rfl ?_
          refine JC_ret ?_
          have he : comE L tol m = 0 := comE_ok hck hlm (by omega)
          have hie : i = L.length := by omega
          subst hie
          refine JE_ret (vs := [_, _]) [vCells ad (scells r), vSes r] Tryz.results19 ⟨rfl, rfl, rfl⟩ ?_ ?_
          · rw [comR_ok he, he]; exact ⟨ad, cap, r, rfl, hr, rfl⟩
          · exact (all_cons (by repeat (first | with_reducible exact mm0 | refine mmS ?_)) (all_cons (by repeat (first | with_reducible exact mm0 | refine mmS ?_)) all_nil))
    · refine JL_not rfl ?_
      rw [Bool.not_false]
      refine JL_done_up 113 [] [_] rfl rfl (by simp only [nrmF]; rfl) rfl rfl ?_
      refine JC_true rfl ?_
      refine JC_seq ?_
      refine JC_region ?_
      refine JL_assign rfl ?_
      refine JL_assign rfl ?_
      refine JL_done_up 113 [] [_] rfl rfl (by simp only [nrmF]; rfl) rfl rfl ?_
      refine JC_ret ?_
      refine JE_then_ret ?_
      have he : comE L tol m = 2 := comE_lim (Classical.byContradiction h21) (by rw [limE_no h25]; decide)
      refine JE_sesNil ?_
      refine JE_ret (vs := [_, _]) [vCells none (scells []), vSes []] Tryz.results19 ⟨rfl, rfl, rfl⟩ ?_ ?_
      · rw [comR_no (by rw [he]; first | assumption | decide), he]; exact ⟨none, 0, [], rfl, rfl, rfl⟩
      · exact (all_cons (by repeat (first | with_reducible exact mm0 | refine mmS ?_)) (all_cons (by repeat (first | with_reducible exact mm0 | refine mmS ?_)) all_nil))

end Go.Fw.K
