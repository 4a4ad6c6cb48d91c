/- Walks through functions of the given program: each meets its contract. (Printed by a program of this repo.) -/
import Derived.Test.YtgfldmhpindbpaaDoorC4
import Derived.Test.YtgfldmhpindbpaaDoorC5
import Derived.Test.YtgfldmhpindbpaaDoorM1
import Derived.Test.YtgfldmhpindbpaaDoorProg
namespace Go.Fw.P6
open Go Go.RowKit Go.Proofs Go.Nat9 Go.Fw
attribute [local irreducible] JC JL JE
theorem ca10 : callable Tryd.prog 10 = true := by kernel_rfl
theorem ca11 : callable Tryd.prog 11 = true := by kernel_rfl
theorem ca13 : callable Tryd.prog 13 = true := by kernel_rfl
theorem ca14 : callable Tryd.prog 14 = true := by kernel_rfl
theorem ca16 : callable Tryd.prog 16 = true := by kernel_rfl
theorem ca17 : callable Tryd.prog 17 = true := by kernel_rfl
theorem ca18 : callable Tryd.prog 18 = true := by kernel_rfl
theorem ca9 : callable Tryd.prog 9 = true := by kernel_rfl
theorem mixed : Tryd.prog.follows .mixedOrders = true := by kernel_rfl
theorem sl22 : slOf Tryd.prog 22 = some (3, 1, 8, [.int .i64 0]) := by kernel_rfl
theorem sl28 : slOf Tryd.prog 28 = some (36, 3, 56, [.bool false, .slice none 0 0, .slice none 0 0]) := by kernel_rfl
theorem ty3 : tyOf Tryd.prog 3 = some (false, 1) := by kernel_rfl
theorem ty36 : tyOf Tryd.prog 36 = some (true, 3) := by kernel_rfl
theorem ub4 : Tryd.prog.underlying 4 = some .bool := by kernel_rfl
theorem z36 : zeroOf Tryd.prog 36 = some [.bool false, .slice none 0 0, .slice none 0 0] := by kernel_rfl
end Go.Fw.P6
namespace Go.Fw.K
open Go Go.RowKit Go.Proofs Go.Nat9 Go.Fw Go.Fw.P6
attribute [local irreducible] JC JL JE

set_option maxHeartbeats 1000000 in
set_option maxRecDepth 20000 in
theorem isotonicBlocks_con {adv adw : Option Addr} {cv cw : Nat} {V W : List Int} :
    ConF Tryd.prog 5 [.slice adv V.length cv, .slice adw W.length cw] [vCells adv (i64s V), vCells adw (i64s W)]
      (fun v φo => v = .bool true ∧ φo = []) := by
  refine ConF_of Tryd.func5 rfl 176 _ rfl rfl ?_
  intro w0
  refine JC_norm ⟨176, [], [_, _, _, _, _, _, _, _, _, _, _, _, _, _, _, _, _, _, _, _, _, _, _, _, _, _, _, _, _, _, _, _, _, _, _, _, _, _, _, _, _, _, _, _, _, _, _, _, _, _, _, _, _, _, _, _, _, _, _, _, _, _, _, _, _, _, _, _, _, _, _, _, _, _, _, _, _, _, _, _, _, _, _, _, _, _, _, _, _, _, _, _, _, _, _, _, _, _, _, _, _, _, _, _, _, _, _, _, _, _, _, _, _, _, _, _, _, _, _, _, _, _, _, _, _, _, _, _, _, _, _, _, _, _, _, _, _, _, _, _, _, _, _, _, _, _, _, _, _, _, _, _, _, _, _, _, _, _, _, _, _, _, _, _, _, _, _, _, _, _, _, _, _, _, _, _]⟩ [] [_, _] rfl rfl rfl ?_
  refine JC_seq ?_
  refine JC_region ?_
  refine JL_assign rfl ?_
  refine JL_done_up 176 [] [_, _] rfl rfl (by simp only [nrmF]; rfl) rfl rfl ?_
  refine JC_seq ?_
  refine JC_seq ?_
  refine JC_region ?_
  refine JL_callF' Asks.nil (iawake_con) rfl ca9 rfl ?_
  rintro _ _ ⟨rfl, rfl⟩
  refine JL_not rfl ?_
  rw [Bool.not_true]
  refine JL_move rfl ?_
  refine JL_guard_yes rfl rfl ?_
  refine JL_move rfl ?_
  refine JL_guard_yes rfl rfl ?_
  refine JL_move rfl ?_
  refine JL_guard_yes rfl rfl ?_
  refine JL_callF' (Asks.cons (holds_of_mem (by repeat (first | with_reducible exact mm0 | refine mmS ?_))) (Asks.cons (holds_of_mem (by repeat (first | with_reducible exact mm0 | refine mmS ?_))) Asks.nil)) (few0_con) rfl ca10 ⟨rfl, rfl, rfl, rfl⟩ ?_
  rintro _ _ ⟨rfl, rfl⟩
  refine JL_split (fun h21 => ?_) (fun h21 => ?_)
  · refine JL_guard_yes rfl rfl ?_
    refine JL_not rfl ?_
    rw [Bool.not_true]
    refine JL_pick_f rfl rfl ?_
    refine JL_move rfl ?_
    refine JL_guard_yes rfl rfl ?_
    refine JL_move rfl ?_
    refine JL_guard_yes rfl rfl ?_
    refine JL_move rfl ?_
    refine JL_guard_yes rfl rfl ?_
    refine JL_callF' (Asks.cons (holds_of_mem (by repeat (first | with_reducible exact mm0 | refine mmS ?_))) (Asks.cons (holds_of_mem (by repeat (first | with_reducible exact mm0 | refine mmS ?_))) Asks.nil)) (rdata_con) rfl ca11 ⟨rfl, rfl, rfl⟩ ?_
    rintro _ _ ⟨rfl, rfl⟩
    refine JL_guard_yes rfl rfl ?_
    refine JL_neq rfl rfl ?_
    refine JL_split (fun h28 => ?_) (fun h28 => ?_)
    · refine JL_pick_f rfl rfl ?_
      refine JL_done_up 176 [] [_, _] rfl rfl (by simp only [nrmF]; rfl) rfl rfl ?_
      refine JC_true rfl ?_
      refine JC_seq ?_
      refine JC_region ?_
      refine JL_callF' Asks.nil (iawake_con) rfl ca9 rfl ?_
      rintro _ _ ⟨rfl, rfl⟩
      refine JL_assign rfl ?_
      refine JL_done_up 176 [] [_, _] rfl rfl (by simp only [nrmF]; rfl) rfl rfl ?_
      refine JC_ret ?_
      refine JE_then_ret ?_
      refine JE_ret (vs := [_]) [] Tryd.results5 ⟨rfl, rfl⟩ ?_ ?_
      · exact ⟨rfl, rfl⟩
      · exact all_nil
    · refine JL_pick_f rfl rfl ?_
      refine JL_done_up 176 [] [_, _] rfl rfl (by simp only [nrmF]; rfl) rfl rfl ?_
      refine JC_false rfl ?_
      refine JC_skip ?_
      refine JE_then ?_
      refine JC_seq ?_
      have hz : chk V W = 0 := Classical.byContradiction h28
      obtain ⟨hn, hvw, hok⟩ := chk_zero hz
      refine JC_region ?_
      refine JL_move rfl ?_
      refine JL_move rfl ?_
      refine JL_callF' (Asks.cons (holds_of_mem (by repeat (first | with_reducible exact mm0 | refine mmS ?_))) (Asks.cons (holds_of_mem (by repeat (first | with_reducible exact mm0 | refine mmS ?_))) Asks.nil)) (ifit_con) rfl ca13 ⟨rfl, rfl, rfl⟩ ?_
      rintro _ _ ⟨ad34, c34, l34, rfl, hl34, rfl⟩
      rw [hz]
      have hn34 := fes_flen hz hl34
      refine JL_move rfl ?_
      refine JL_extract rfl rfl ?_
      refine JL_extract rfl rfl ?_
      refine JL_assign rfl ?_
      refine JL_assign rfl ?_
      refine JL_done_up 176 [] [_, _, _, _] rfl rfl (by simp only [nrmF]; rfl) rfl rfl ?_
      refine JC_seq ?_
      refine JC_region ?_
      refine JL_move rfl ?_
      refine JL_move rfl ?_
      refine JL_callF' (Asks.cons (holds_of_mem (by repeat (first | with_reducible exact mm0 | refine mmS ?_))) (Asks.cons (holds_of_mem (by repeat (first | with_reducible exact mm0 | refine mmS ?_))) Asks.nil)) (ibls_con) rfl ca16 ⟨rfl, rfl, rfl⟩ ?_
      rintro _ _ ⟨ad40, c40, rfl, rfl⟩
      rw [hz]
      refine JL_move rfl ?_
      refine JL_extract rfl rfl ?_
      refine JL_extract rfl rfl ?_
      refine JL_assign rfl ?_
      refine JL_assign rfl ?_
      refine JL_done_up 176 [] [_, _, _, _, _] rfl rfl (by simp only [nrmF]; rfl) rfl rfl ?_
      refine JC_seq ?_
      refine JC_seq ?_
      have hlb : (begL V W).length = (blkL V W).length := begL_len hz
      have hle : (blkL V W).length = 0 ↔ V.length = 0 := blkL_nil hz
      have hbl : (blkL V W).length ≤ V.length := blkL_le hz
      refine JC_region ?_
      refine JL_move rfl ?_
      refine JL_neq rfl rfl ?_
      refine JL_split (fun h44 => ?_) (fun h44 => ?_)
      · exact absurd rfl h44
      · refine JL_move rfl ?_
        refine JL_guard_yes rfl rfl ?_
        refine JL_move rfl ?_
        refine JL_guard_yes rfl rfl ?_
        refine JL_neq rfl rfl ?_
        refine JL_split (fun h47 => ?_) (fun h47 => ?_)
        · exact absurd rfl h47
        · refine JL_pick_f rfl rfl ?_
          refine JL_move rfl ?_
          refine JL_guard_yes rfl rfl ?_
          refine JL_move rfl ?_
          refine JL_guard_yes rfl rfl ?_
          refine JL_len sl28 rfl ?_
          refine JL_guard_yes rfl rfl ?_
          refine JL_move rfl ?_
          refine JL_guard_yes rfl rfl ?_
          refine JL_len sl22 rfl ?_
          refine JL_guard_yes rfl rfl ?_
          refine JL_neq rfl rfl ?_
          refine JL_split (fun h54 => ?_) (fun h54 => ?_)
          · exact absurd hn34 (by omega)
          · refine JL_pick_f rfl rfl ?_
            refine JL_move rfl ?_
            refine JL_guard_yes rfl rfl ?_
            refine JL_move rfl ?_
            refine JL_guard_yes rfl rfl ?_
            refine JL_move rfl ?_
            refine JL_guard_yes rfl rfl ?_
            refine JL_len sl22 rfl ?_
            refine JL_guard_yes rfl rfl ?_
            refine JL_sub_to rfl rfl (IntWalk.i64_in _ (by omega)) ?_
            refine JL_guard_yes rfl rfl ?_
            refine JL_callF' (Asks.cons (holds_of_mem (by repeat (first | with_reducible exact mm0 | refine mmS ?_))) Asks.nil) (basc_con (by omega) (begL_asc hz).1 (begL_asc hz).2) rfl ca17 ⟨rfl, rfl, rfl, rfl⟩ ?_
            rintro _ _ ⟨rfl, rfl⟩
            refine JL_guard_yes rfl rfl ?_
            refine JL_not rfl ?_
            rw [Bool.not_true]
            refine JL_pick_f rfl rfl ?_
            refine JL_move rfl ?_
            refine JL_guard_yes rfl rfl ?_
            refine JL_move rfl ?_
            refine JL_guard_yes rfl rfl ?_
            refine JL_len sl22 rfl ?_
            refine JL_guard_yes rfl rfl ?_
            refine JL_eql rfl rfl ?_
            refine JL_guard_yes rfl rfl ?_
            refine JL_move rfl ?_
            refine JL_guard_yes rfl rfl ?_
            refine JL_len sl22 rfl ?_
            refine JL_guard_yes rfl rfl ?_
            refine JL_eql rfl rfl ?_
            refine JL_guard_yes rfl rfl ?_
            refine JL_neqB ub4 rfl rfl ?_
            rw [show (decide (((begL V W).length : Int) = 0) != decide ((V.length : Int) = 0)) = false from by rw [bne_eq_false_iff_eq, decide_eq_decide]; omega]
            refine JL_pick_f rfl rfl ?_
            refine JL_move rfl ?_
            refine JL_guard_yes rfl rfl ?_
            refine JL_move rfl ?_
            refine JL_guard_yes rfl rfl ?_
            refine JL_len sl22 rfl ?_
            refine JL_guard_yes rfl rfl ?_
            refine JL_gtr rfl rfl ?_
            refine JL_split (fun h76 => ?_) (fun h76 => ?_)
            · refine JL_guard_yes rfl rfl ?_
              refine JL_move rfl ?_
              refine JL_guard_yes rfl rfl ?_
              refine JL_move rfl ?_
              refine JL_guard_yes rfl rfl ?_
              refine JL_idx 0 sl22 rfl rfl rfl (by omega) (by first | exact Reads.view (by repeat (first | with_reducible exact mm0 | refine mmS ?_))) (by rw [i64s_length]; omega) ?_
              refine JL_guard_yes rfl rfl ?_
              refine JL_loadE ty3 rfl (by first | exact Reads.view (by repeat (first | with_reducible exact mm0 | refine mmS ?_))) (i64s_get (by omega)) ?_
              rw [show (begL V W).getD 0 0 = 0 from begL_get hz (by omega)]
              refine JL_guard_yes rfl rfl ?_
              refine JL_neq rfl rfl ?_
              refine JL_split (fun h81 => ?_) (fun h81 => ?_)
              · exact absurd rfl h81
              · refine JL_guard_yes rfl rfl ?_
                refine JL_pick_t rfl rfl ?_
                refine JL_pick_f rfl rfl ?_
                refine JL_done_up 176 [] [_, _, _, _, _] rfl rfl (by simp only [nrmF]; rfl) rfl rfl ?_
                refine JC_false rfl ?_
                refine JC_skip ?_
                refine JE_then ?_
                refine JC_seq ?_
                refine JC_seq ?_
                refine JC_region ?_
                refine JL_assign rfl ?_
                refine JL_done_up 176 [] [_, _, _, _, _] rfl rfl (by simp only [nrmF]; rfl) rfl rfl ?_
                refine JC_block ?_
                refine JC_loopS ((Nat)) (fun (t : Nat) => t ≤ (blkL V W).length) (fun (t : Nat) => (blkL V W).length - t) (fun u (t : Nat) => [none, none, none, none, some (u 4), none, none, none, none, some (.int .i64 (t : Nat)), some (u 10), some (u 11), some (u 12), some (u 13), some (u 14), some (u 15), none, none, none, none, none, none, none, none, none, none, none, none, none, none, none, none, none, none, none, none, none, none, none, none, none, none, none, none, none, none, none, none, none, none, none, none, none, none, none, none, none, none, none, none, none, none, none, none, none, none, none, none, none, none, none, none, none, none, none, none, none, none, none, none, none, none, none, none, some (u 84), some (u 85), some (u 86), some (u 87), some (u 88), some (u 89), some (u 90), some (u 91), some (u 92), some (u 93), some (u 94), some (u 95), some (u 96), some (u 97), some (u 98), some (u 99), some (u 100), some (u 101), some (u 102), some (u 103), some (u 104), some (u 105), some (u 106), some (u 107), some (u 108), some (u 109), some (u 110), some (u 111), some (u 112), some (u 113), some (u 114), some (u 115), some (u 116), some (u 117), some (u 118), some (u 119), some (u 120), some (u 121), some (u 122), some (u 123), some (u 124), some (u 125), some (u 126), some (u 127), some (u 128), some (u 129), some (u 130), some (u 131), some (u 132), some (u 133), some (u 134), some (u 135), some (u 136), some (u 137), some (u 138), some (u 139), some (u 140), some (u 141), some (u 142), some (u 143), some (u 144), some (u 145), some (u 146), some (u 147), some (u 148), some (u 149), some (u 150), some (u 151), some (u 152), some (u 153), some (u 154), some (u 155), some (u 156), some (u 157), some (u 158), some (u 159), some (u 160), some (u 161), some (u 162), some (u 163), some (u 164), some (u 165), some (u 166), some (u 167), some (u 168), some (u 169), some (u 170), some (u 171), some (u 172), some (u 173), some (u 174), some (u 175)]) (fun (t : Nat) => []) (fun (t : Nat) => []) (0) (by kernel_rfl) ?_ (by kernel_rfl) ?_ ?_
                · exact Nat.zero_le _
                · exact subset_nil
                intro u t ht
                refine JC_norm ⟨176, [], [_, _, _, _, _, _, _, _, _, _, _, _, _, _, _, _, _, _, _, _, _, _, _, _, _, _, _, _, _, _, _, _, _, _, _, _, _, _, _, _, _, _, _, _, _, _, _, _, _, _, _, _, _, _, _, _, _, _, _, _, _, _, _, _, _, _, _, _, _, _, _, _, _, _, _, _, _, _, _, _, _, _, _, _, _, _, _, _, _, _, _, _, _, _, _, _, _, _, _, _, _, _, _, _, _, _, _, _, _, _, _, _, _, _, _, _, _, _, _, _, _, _, _, _, _, _, _, _, _, _, _, _, _, _, _, _, _, _, _, _, _, _, _, _, _, _, _, _, _, _, _, _, _, _, _, _, _, _, _, _, _, _, _, _, _, _, _, _, _, _, _, _, _, _, _, _]⟩ [] [_, _, _, _, _] rfl rfl rfl ?_
                refine JC_seq ?_
                refine JC_seq ?_
                refine JC_region ?_
                refine JL_move rfl ?_
                refine JL_move rfl ?_
                refine JL_len sl22 rfl ?_
                refine JL_lss rfl rfl ?_
                refine JL_split (fun h87 => ?_) (fun h87 => ?_)
                · refine JL_done_up 176 [] [_, _, _, _, _] rfl rfl (by simp only [nrmF]; rfl) rfl rfl ?_
                  refine JC_true rfl ?_
                  refine JC_skip ?_
                  refine JE_then ?_
                  refine JC_seq ?_
                  refine JC_block ?_
                  refine JC_seq ?_
                  refine JC_region ?_
                  refine JL_move rfl ?_
                  refine JL_len sl22 rfl ?_
                  refine JL_assign rfl ?_
                  refine JL_done_up 176 [] [_, _, _, _, _] rfl rfl (by simp only [nrmF]; rfl) rfl rfl ?_
                  refine JC_seq ?_
                  refine JC_seq ?_
                  refine JC_region ?_
                  refine JL_move rfl ?_
                  refine JL_add_to rfl rfl (IntWalk.i64_in _ (by omega)) ?_
                  refine JL_move rfl ?_
                  refine JL_len sl22 rfl ?_
                  refine JL_lss rfl rfl ?_
                  refine JL_done_up 176 [] [_, _, _, _, _] rfl rfl (by simp only [nrmF]; rfl) rfl rfl ?_
                  refine JC_cutT ((Nat)) (fun (e : Nat) => e = bg V W (t + 1)) (fun u (e : Nat) => [none, none, none, none, none, none, none, none, none, none, some (.int .i64 (e : Nat)), none, none, none, none, none, none, none, none, none, none, none, none, none, none, none, none, none, none, none, none, none, none, none, none, none, none, none, none, none, none, none, none, none, none, none, none, none, none, none, none, none, none, none, none, none, none, none, none, none, none, none, none, none, none, none, none, none, none, none, none, none, none, none, none, none, none, none, none, none, none, none, none, none, none, none, none, none, none, none, none, none, none, none, none, none, none, some (u 97), some (u 98), some (u 99), some (u 100), some (u 101), none, none, none, none, none, none, none, none, none, none, none, none, none, none, none, none, none, none, none, none, none, none, none, none, none, none, none, none, none, none, none, none, none, none, none, none, none, none, none, none, none, none, none, none, none, none, none, none, none, none, none, none, none, none, none, none, none, none, none, none, none, none, none, none, none, none, none, none, none, none, none, none, none, none]) (fun (e : Nat) => []) (fun (e : Nat) => []) ?_ ?_
                  · refine JC_cond rfl (fun hb => ?_) (fun hb => ?_)
                    · have h96 := of_decide_eq_true hb
                      refine JC_region ?_
                      refine JL_move rfl ?_
                      refine JL_move rfl ?_
                      refine JL_add_to rfl rfl (IntWalk.i64_in _ (by omega)) ?_
                      rw [show ((t : Int) + 1 : Int) = ((t + 1 : Nat) : Int) from by omega]
                      refine JL_idx (t + 1) sl22 rfl rfl rfl (by omega) (by first | exact Reads.view (by repeat (first | with_reducible exact mm0 | refine mmS ?_))) (by rw [i64s_length]; omega) ?_
                      refine JL_loadE ty3 rfl (by first | exact Reads.view (by repeat (first | with_reducible exact mm0 | refine mmS ?_))) (i64s_get (by omega)) ?_
                      rw [show (begL V W).getD (t + 1) 0 = ((bg V W (t + 1) : Nat) : Int) from begL_get hz (by omega)]
                      refine JL_assign rfl ?_
                      refine JL_nil_up 176 [] [_, _, _, _, _] rfl rfl (by simp only [nrmF]; rfl) rfl rfl ?_
                      refine JE_midS (bg V W (t + 1)) (by kernel_rfl) ?_ (by kernel_rfl) ?_
                      · exact rfl
                      · exact subset_app subset_nil ss0
                    · have h96 := of_decide_eq_false hb
                      refine JC_skip ?_
                      refine JE_midS (V.length) (by kernel_rfl) ?_ (by kernel_rfl) ?_
                      · exact (by rw [show t + 1 = (blkL V W).length from by omega]; exact (bg_end hz).symm)
                      · exact subset_app subset_nil ss0
                  intro u e he
                  refine JC_norm ⟨176, [], [_, _, _, _, _, _, _, _, _, _, _, _, _, _, _, _, _, _, _, _, _, _, _, _, _, _, _, _, _, _, _, _, _, _, _, _, _, _, _, _, _, _, _, _, _, _, _, _, _, _, _, _, _, _, _, _, _, _, _, _, _, _, _, _, _, _, _, _, _, _, _, _, _, _, _, _, _, _, _, _, _, _, _, _, _, _, _, _, _, _, _, _, _, _, _, _, _, _, _, _, _, _, _, _, _, _, _, _, _, _, _, _, _, _, _, _, _, _, _, _, _, _, _, _, _, _, _, _, _, _, _, _, _, _, _, _, _, _, _, _, _, _, _, _, _, _, _, _, _, _, _, _, _, _, _, _, _, _, _, _, _, _, _, _, _, _, _, _, _, _, _, _, _, _, _, _]⟩ [] [_, _, _, _, _] rfl rfl rfl ?_
                  subst he
                  obtain ⟨hb1, hb2, hbp, hbf⟩ := block_at hz (t := t) (by omega)
                  refine JC_seq ?_
                  have hpe110 : poolE V W ((bg V W t : Nat) : Int) ((bg V W (t + 1) : Nat) : Int) = 0 := poolE_ok hz (by omega)
                  refine JC_region ?_
                  refine JL_move rfl ?_
                  refine JL_move rfl ?_
                  refine JL_move rfl ?_
                  refine JL_move rfl ?_
                  refine JL_idx t sl22 rfl rfl rfl (by omega) (by first | exact Reads.view (by repeat (first | with_reducible exact mm0 | refine mmS ?_))) (by rw [i64s_length]; omega) ?_
                  refine JL_loadE ty3 rfl (by first | exact Reads.view (by repeat (first | with_reducible exact mm0 | refine mmS ?_))) (i64s_get (by omega)) ?_
                  rw [show (begL V W).getD t 0 = ((bg V W t : Nat) : Int) from begL_get hz (by omega)]
                  refine JL_move rfl ?_
                  refine JL_callF' (Asks.cons (holds_of_mem (by repeat (first | with_reducible exact mm0 | refine mmS ?_))) (Asks.cons (holds_of_mem (by repeat (first | with_reducible exact mm0 | refine mmS ?_))) Asks.nil)) (ipool_con (by omega) (by omega) (by omega) (by omega)) rfl ca18 ⟨rfl, rfl, rfl, rfl, rfl⟩ ?_
                  rintro _ _ ⟨ad110, cp110, be110, ce110, rfl, rfl⟩
                  rw [poolO_some (hpe110), hpe110]
                  refine JL_move rfl ?_
                  refine JL_extract rfl rfl ?_
                  refine JL_extract rfl rfl ?_
                  refine JL_alloc z36 (fun b11 => ?_)
                  refine JL_store (vs := [_, _, _]) 0 ty36 rfl rfl rfl (AllOne.cons rfl (AllOne.cons rfl (AllOne.cons rfl AllOne.nil))) rfl (Nat.le_of_ble_eq_true rfl) ?_
                  refine JL_assign rfl ?_
                  refine JL_done_up 176 [box _ _ [_, _, _]] [_, _, _, _, _, _, _] rfl rfl (by simp only [nrmF]; rfl) rfl rfl ?_
                  refine JC_seq ?_
                  refine JC_seq ?_
                  rcases Nat.eq_zero_or_pos t with h0 | h0
                  · refine JC_drawT mixed 21 [spV 113 [] _, spV 114 [0] _, spV 115 [1] _, spV 116 [2] _, spV 117 [2, 3] _, spV 118 [2, 4] _, spV 119 [5] _, spV 120 [5] _, spV 121 [5] _, spV 122 [5, 7, 8] _, spV 123 [5, 9] _, spV 124 [5, 6, 10] _, spV 125 [5, 11] _, spV 126 [5] _, spV 127 [5] _, spV 128 [5] _, spV 129 [5, 14, 15] _, spV 130 [5, 16] _, spV 131 [5, 17] _, spV 132 [5, 13, 18] _, spV 133 [5, 19] _] ⟨OblS_V (fun vals ex ψ => (by
                        refine JL_normQ ⟨176, [(113, _), (114, _), (115, _), (116, _), (117, _), (118, _), (119, _), (120, _), (121, _), (122, _), (123, _), (124, _), (125, _), (126, _), (127, _), (128, _), (129, _), (130, _), (131, _), (132, _), (133, _)], _⟩ (_ :: _ :: _ :: _ :: _ :: _ :: _ :: ψ) rfl rfl ?_
                        refine JL_move rfl ?_
                        exact JL_nil (JE_stepV rfl ss0))), OblS_V (fun vals ex ψ => (by
                        refine JL_normQ ⟨176, [(113, _), (114, _), (115, _), (116, _), (117, _), (118, _), (119, _), (120, _), (121, _), (122, _), (123, _), (124, _), (125, _), (126, _), (127, _), (128, _), (129, _), (130, _), (131, _), (132, _), (133, _)], _⟩ (_ :: _ :: _ :: _ :: _ :: _ :: _ :: ψ) rfl rfl ?_
                        refine JL_neq rfl rfl ?_
                        rw [show decide ((0 : Int) ≠ 0) = false from rfl]
                        exact JL_nil (JE_stepV rfl ss0))), OblS_V (fun vals ex ψ => (by
                        refine JL_normQ ⟨176, [(113, _), (114, _), (115, _), (116, _), (117, _), (118, _), (119, _), (120, _), (121, _), (122, _), (123, _), (124, _), (125, _), (126, _), (127, _), (128, _), (129, _), (130, _), (131, _), (132, _), (133, _)], _⟩ (_ :: _ :: _ :: _ :: _ :: _ :: _ :: ψ) rfl rfl ?_
                        refine JL_move rfl ?_
                        exact JL_nil (JE_stepV rfl ss0))), OblS_V (fun vals ex ψ => (by
                        refine JL_normQ ⟨176, [(113, _), (114, _), (115, _), (116, _), (117, _), (118, _), (119, _), (120, _), (121, _), (122, _), (123, _), (124, _), (125, _), (126, _), (127, _), (128, _), (129, _), (130, _), (131, _), (132, _), (133, _)], _⟩ (_ :: _ :: _ :: _ :: _ :: _ :: _ :: ψ) rfl rfl ?_
                        refine JL_guard_yes rfl rfl ?_
                        refine JL_move rfl ?_
                        exact JL_nil (JE_stepV rfl ss0))), OblS_V (fun vals ex ψ => (by
                        refine JL_normQ ⟨176, [(113, _), (114, _), (115, _), (116, _), (117, _), (118, _), (119, _), (120, _), (121, _), (122, _), (123, _), (124, _), (125, _), (126, _), (127, _), (128, _), (129, _), (130, _), (131, _), (132, _), (133, _)], _⟩ (_ :: _ :: _ :: _ :: _ :: _ :: _ :: ψ) rfl rfl ?_
                        refine JL_guard_yes rfl rfl ?_
                        refine JL_gtr rfl rfl ?_
                        rw [show decide ((0 : Int) < (t : Int)) = false from decide_eq_false (by omega)]
                        exact JL_nil (JE_stepV rfl ss0))), OblS_V (fun vals ex ψ => (by
                        refine JL_normQ ⟨176, [(113, _), (114, _), (115, _), (116, _), (117, _), (118, _), (119, _), (120, _), (121, _), (122, _), (123, _), (124, _), (125, _), (126, _), (127, _), (128, _), (129, _), (130, _), (131, _), (132, _), (133, _)], _⟩ (_ :: _ :: _ :: _ :: _ :: _ :: _ :: ψ) rfl rfl ?_
                        refine JL_guard_yes rfl rfl ?_
                        refine JL_move rfl ?_
                        exact JL_nil (JE_stepV rfl ss0))), OblS_V (fun vals ex ψ => (by
                        refine JL_normQ ⟨176, [(113, _), (114, _), (115, _), (116, _), (117, _), (118, _), (119, _), (120, _), (121, _), (122, _), (123, _), (124, _), (125, _), (126, _), (127, _), (128, _), (129, _), (130, _), (131, _), (132, _), (133, _)], _⟩ (_ :: _ :: _ :: _ :: _ :: _ :: _ :: ψ) rfl rfl ?_
                        refine JL_guard_no rfl rfl ?_
                        exact JL_nil (JE_stepV rfl ss0))), OblS_V (fun vals ex ψ => (by
                        refine JL_normQ ⟨176, [(113, _), (114, _), (115, _), (116, _), (117, _), (118, _), (119, _), (120, _), (121, _), (122, _), (123, _), (124, _), (125, _), (126, _), (127, _), (128, _), (129, _), (130, _), (131, _), (132, _), (133, _)], _⟩ (_ :: _ :: _ :: _ :: _ :: _ :: _ :: ψ) rfl rfl ?_
                        refine JL_guard_no rfl rfl ?_
                        exact JL_nil (JE_stepV rfl ss0))), OblS_V (fun vals ex ψ => (by
                        refine JL_normQ ⟨176, [(113, _), (114, _), (115, _), (116, _), (117, _), (118, _), (119, _), (120, _), (121, _), (122, _), (123, _), (124, _), (125, _), (126, _), (127, _), (128, _), (129, _), (130, _), (131, _), (132, _), (133, _)], _⟩ (_ :: _ :: _ :: _ :: _ :: _ :: _ :: ψ) rfl rfl ?_
                        refine JL_guard_no rfl rfl ?_
                        exact JL_nil (JE_stepV rfl ss0))), OblS_V (fun vals ex ψ => (by
                        refine JL_normQ ⟨176, [(113, _), (114, _), (115, _), (116, _), (117, _), (118, _), (119, _), (120, _), (121, _), (122, _), (123, _), (124, _), (125, _), (126, _), (127, _), (128, _), (129, _), (130, _), (131, _), (132, _), (133, _)], _⟩ (_ :: _ :: _ :: _ :: _ :: _ :: _ :: ψ) rfl rfl ?_
                        refine JL_guard_no rfl rfl ?_
                        exact JL_nil (JE_stepV rfl ss0))), OblS_V (fun vals ex ψ => (by
                        refine JL_normQ ⟨176, [(113, _), (114, _), (115, _), (116, _), (117, _), (118, _), (119, _), (120, _), (121, _), (122, _), (123, _), (124, _), (125, _), (126, _), (127, _), (128, _), (129, _), (130, _), (131, _), (132, _), (133, _)], _⟩ (_ :: _ :: _ :: _ :: _ :: _ :: _ :: ψ) rfl rfl ?_
                        refine JL_guard_no rfl rfl ?_
                        exact JL_nil (JE_stepV rfl ss0))), OblS_V (fun vals ex ψ => (by
                        refine JL_normQ ⟨176, [(113, _), (114, _), (115, _), (116, _), (117, _), (118, _), (119, _), (120, _), (121, _), (122, _), (123, _), (124, _), (125, _), (126, _), (127, _), (128, _), (129, _), (130, _), (131, _), (132, _), (133, _)], _⟩ (_ :: _ :: _ :: _ :: _ :: _ :: _ :: ψ) rfl rfl ?_
                        refine JL_guard_no rfl rfl ?_
                        exact JL_nil (JE_stepV rfl ss0))), OblS_V (fun vals ex ψ => (by
                        refine JL_normQ ⟨176, [(113, _), (114, _), (115, _), (116, _), (117, _), (118, _), (119, _), (120, _), (121, _), (122, _), (123, _), (124, _), (125, _), (126, _), (127, _), (128, _), (129, _), (130, _), (131, _), (132, _), (133, _)], _⟩ (_ :: _ :: _ :: _ :: _ :: _ :: _ :: ψ) rfl rfl ?_
                        refine JL_guard_no rfl rfl ?_
                        exact JL_nil (JE_stepV rfl ss0))), OblS_V (fun vals ex ψ => (by
                        refine JL_normQ ⟨176, [(113, _), (114, _), (115, _), (116, _), (117, _), (118, _), (119, _), (120, _), (121, _), (122, _), (123, _), (124, _), (125, _), (126, _), (127, _), (128, _), (129, _), (130, _), (131, _), (132, _), (133, _)], _⟩ (_ :: _ :: _ :: _ :: _ :: _ :: _ :: ψ) rfl rfl ?_
                        refine JL_guard_no rfl rfl ?_
                        exact JL_nil (JE_stepV rfl ss0))), OblS_V (fun vals ex ψ => (by
                        refine JL_normQ ⟨176, [(113, _), (114, _), (115, _), (116, _), (117, _), (118, _), (119, _), (120, _), (121, _), (122, _), (123, _), (124, _), (125, _), (126, _), (127, _), (128, _), (129, _), (130, _), (131, _), (132, _), (133, _)], _⟩ (_ :: _ :: _ :: _ :: _ :: _ :: _ :: ψ) rfl rfl ?_
                        refine JL_guard_no rfl rfl ?_
                        exact JL_nil (JE_stepV rfl ss0))), OblS_V (fun vals ex ψ => (by
                        refine JL_normQ ⟨176, [(113, _), (114, _), (115, _), (116, _), (117, _), (118, _), (119, _), (120, _), (121, _), (122, _), (123, _), (124, _), (125, _), (126, _), (127, _), (128, _), (129, _), (130, _), (131, _), (132, _), (133, _)], _⟩ (_ :: _ :: _ :: _ :: _ :: _ :: _ :: ψ) rfl rfl ?_
                        refine JL_guard_no rfl rfl ?_
                        exact JL_nil (JE_stepV rfl ss0))), OblS_V (fun vals ex ψ => (by
                        refine JL_normQ ⟨176, [(113, _), (114, _), (115, _), (116, _), (117, _), (118, _), (119, _), (120, _), (121, _), (122, _), (123, _), (124, _), (125, _), (126, _), (127, _), (128, _), (129, _), (130, _), (131, _), (132, _), (133, _)], _⟩ (_ :: _ :: _ :: _ :: _ :: _ :: _ :: ψ) rfl rfl ?_
                        refine JL_guard_no rfl rfl ?_
                        exact JL_nil (JE_stepV rfl ss0))), OblS_V (fun vals ex ψ => (by
                        refine JL_normQ ⟨176, [(113, _), (114, _), (115, _), (116, _), (117, _), (118, _), (119, _), (120, _), (121, _), (122, _), (123, _), (124, _), (125, _), (126, _), (127, _), (128, _), (129, _), (130, _), (131, _), (132, _), (133, _)], _⟩ (_ :: _ :: _ :: _ :: _ :: _ :: _ :: ψ) rfl rfl ?_
                        refine JL_guard_no rfl rfl ?_
                        exact JL_nil (JE_stepV rfl ss0))), OblS_V (fun vals ex ψ => (by
                        refine JL_normQ ⟨176, [(113, _), (114, _), (115, _), (116, _), (117, _), (118, _), (119, _), (120, _), (121, _), (122, _), (123, _), (124, _), (125, _), (126, _), (127, _), (128, _), (129, _), (130, _), (131, _), (132, _), (133, _)], _⟩ (_ :: _ :: _ :: _ :: _ :: _ :: _ :: ψ) rfl rfl ?_
                        refine JL_guard_no rfl rfl ?_
                        exact JL_nil (JE_stepV rfl ss0))), OblS_V (fun vals ex ψ => (by
                        refine JL_normQ ⟨176, [(113, _), (114, _), (115, _), (116, _), (117, _), (118, _), (119, _), (120, _), (121, _), (122, _), (123, _), (124, _), (125, _), (126, _), (127, _), (128, _), (129, _), (130, _), (131, _), (132, _), (133, _)], _⟩ (_ :: _ :: _ :: _ :: _ :: _ :: _ :: ψ) rfl rfl ?_
                        refine JL_guard_no rfl rfl ?_
                        exact JL_nil (JE_stepV rfl ss0))), OblS_V (fun vals ex ψ => (by
                        refine JL_normQ ⟨176, [(113, _), (114, _), (115, _), (116, _), (117, _), (118, _), (119, _), (120, _), (121, _), (122, _), (123, _), (124, _), (125, _), (126, _), (127, _), (128, _), (129, _), (130, _), (131, _), (132, _), (133, _)], _⟩ (_ :: _ :: _ :: _ :: _ :: _ :: _ :: ψ) rfl rfl ?_
                        refine JL_guard_no rfl rfl ?_
                        exact JL_nil (JE_stepV rfl ss0))), trivial⟩ (by kernel_rfl) (fun vals bs => ?_)
                    refine JL_normL [_, _, _, _] ⟨176, [(113, _), (114, _), (115, _), (116, _), (117, _), (118, _), (119, _), (120, _), (121, _), (122, _), (123, _), (124, _), (125, _), (126, _), (127, _), (128, _), (129, _), (130, _), (131, _), (132, _), (133, _)], _⟩ [box _ _ [_, _, _]] [_, _, _, _, _, _, _] rfl rfl rfl rfl ?_
                    refine JL_guard_no rfl rfl ?_
                    refine JL_guard_no rfl rfl ?_
                    refine JL_guard_yes rfl rfl ?_
                    refine JL_pick_f rfl rfl ?_
                    refine JL_pick_f rfl rfl ?_
                    refine JL_done_up 176 [box _ _ [_, _, _]] [_, _, _, _, _, _, _] rfl rfl (by simp only [nrmF]; rfl) rfl rfl ?_
                    refine JC_false rfl ?_
                    refine JC_skip ?_
                    refine JE_then ?_
                    refine JC_seq ?_
                    refine JC_region ?_
                    refine JL_move rfl ?_
                    refine JL_move rfl ?_
                    refine JL_idx t sl22 rfl rfl rfl (by omega) (by first | exact Reads.view (by repeat (first | with_reducible exact mm0 | refine mmS ?_))) (by rw [i64s_length]; omega) ?_
                    refine JL_loadE ty3 rfl (by first | exact Reads.view (by repeat (first | with_reducible exact mm0 | refine mmS ?_))) (i64s_get (by omega)) ?_
                    rw [show (begL V W).getD t 0 = ((bg V W t : Nat) : Int) from begL_get hz (by omega)]
                    refine JL_assign rfl ?_
                    refine JL_done_up 176 [box _ _ [_, _, _]] [_, _, _, _, _, _, _] rfl rfl (by simp only [nrmF]; rfl) rfl rfl ?_
                    refine JC_block ?_
                    refine JC_loopS ((Nat)) (fun (i : Nat) => bg V W t ≤ i ∧ i ≤ bg V W (t + 1)) (fun (i : Nat) => bg V W (t + 1) - i) (fun u (i : Nat) => [none, none, none, none, some (u 4), none, none, none, none, none, none, none, none, some (.int .i64 (i : Nat)), some (u 14), some (u 15), none, none, none, none, none, none, none, none, none, none, none, none, none, none, none, none, none, none, none, none, none, none, none, none, none, none, none, none, none, none, none, none, none, none, none, none, none, none, none, none, none, none, none, none, none, none, none, none, none, none, none, none, none, none, none, none, none, none, none, none, none, none, none, none, none, none, none, none, none, none, none, none, none, none, none, none, none, none, none, none, none, none, none, none, none, none, none, none, none, none, none, none, none, none, none, none, none, none, none, none, none, none, none, none, none, none, none, none, none, none, none, none, none, none, none, none, none, none, none, none, none, none, none, none, none, none, some (u 142), some (u 143), some (u 144), some (u 145), some (u 146), some (u 147), some (u 148), some (u 149), some (u 150), some (u 151), some (u 152), some (u 153), some (u 154), some (u 155), some (u 156), some (u 157), some (u 158), some (u 159), some (u 160), some (u 161), some (u 162), some (u 163), some (u 164), some (u 165), some (u 166), some (u 167), some (u 168), some (u 169), some (u 170), some (u 171), some (u 172), some (u 173), some (u 174), some (u 175)]) (fun (i : Nat) => [none]) (fun (i : Nat) => []) (bg V W t) (by kernel_rfl) ?_ (by kernel_rfl) ?_ ?_
                    · exact ⟨Nat.le_refl _, Nat.le_of_lt hb1⟩
                    · exact subset_nil
                    intro u i hC
                    obtain ⟨hi0, hi⟩ := hC
                    refine JC_norm ⟨176, [], [_, _, _, _, _, _, _, _, _, _, _, _, _, _, _, _, _, _, _, _, _, _, _, _, _, _, _, _, _, _, _, _, _, _, _, _, _, _, _, _, _, _, _, _, _, _, _, _, _, _, _, _, _, _, _, _, _, _, _, _, _, _, _, _, _, _, _, _, _, _, _, _, _, _, _, _, _, _, _, _, _, _, _, _, _, _, _, _, _, _, _, _, _, _, _, _, _, _, _, _, _, _, _, _, _, _, _, _, _, _, _, _, _, _, _, _, _, _, _, _, _, _, _, _, _, _, _, _, _, _, _, _, _, _, _, _, _, _, _, _, _, _, _, _, _, _, _, _, _, _, _, _, _, _, _, _, _, _, _, _, _, _, _, _, _, _, _, _, _, _, _, _, _, _, _, _]⟩ [box _ _ [_, _, _]] [_, _, _, _, _, _, _] rfl rfl rfl ?_
                    refine JC_seq ?_
                    refine JC_seq ?_
                    refine JC_region ?_
                    refine JL_move rfl ?_
                    refine JL_move rfl ?_
                    refine JL_lss rfl rfl ?_
                    refine JL_split (fun h144 => ?_) (fun h144 => ?_)
                    · refine JL_done_up 176 [box _ _ [_, _, _]] [_, _, _, _, _, _, _] rfl rfl (by simp only [nrmF]; rfl) rfl rfl ?_
                      refine JC_true rfl ?_
                      refine JC_skip ?_
                      refine JE_then ?_
                      refine JC_seq ?_
                      refine JC_block ?_
                      refine JC_seq ?_
                      have hpe156 : poolE V W ((bg V W t : Nat) : Int) ((i + 1 : Nat) : Int) = 0 := poolE_ok hz (by omega)
                      obtain ⟨hm1, hm2⟩ := hbp i hi0 (by omega)
                      have hq1 : qs (meanq V W (bg V W t) (bg V W (t + 1))) 3 := qs_meanq hz (by omega)
                      have hq2 : qs (meanq V W (bg V W t) (i + 1)) 3 := qs_meanq hz (by omega)
                      refine JC_region ?_
                      refine JL_move rfl ?_
                      refine JL_move rfl ?_
                      refine JL_move rfl ?_
                      refine JL_move rfl ?_
                      refine JL_idx t sl22 rfl rfl rfl (by omega) (by first | exact Reads.view (by repeat (first | with_reducible exact mm0 | refine mmS ?_))) (by rw [i64s_length]; omega) ?_
                      refine JL_loadE ty3 rfl (by first | exact Reads.view (by repeat (first | with_reducible exact mm0 | refine mmS ?_))) (i64s_get (by omega)) ?_
                      rw [show (begL V W).getD t 0 = ((bg V W t : Nat) : Int) from begL_get hz (by omega)]
                      refine JL_move rfl ?_
                      refine JL_add_to rfl rfl (IntWalk.i64_in _ (by omega)) ?_
                      rw [show ((i : Int) + 1 : Int) = ((i + 1 : Nat) : Int) from by omega]
                      refine JL_callF' (Asks.cons (holds_of_mem (by repeat (first | with_reducible exact mm0 | refine mmS ?_))) (Asks.cons (holds_of_mem (by repeat (first | with_reducible exact mm0 | refine mmS ?_))) Asks.nil)) (ipool_con (by omega) (by omega) (by omega) (by omega)) rfl ca18 ⟨rfl, rfl, rfl, rfl, rfl⟩ ?_
                      rintro _ _ ⟨ad156, cp156, be156, ce156, rfl, rfl⟩
                      rw [poolO_some (hpe156), hpe156]
                      refine JL_move rfl ?_
                      refine JL_extract rfl rfl ?_
                      refine JL_extract rfl rfl ?_
                      refine JL_alloc z36 (fun b14 => ?_)
                      refine JL_store (vs := [_, _, _]) 1 ty36 rfl rfl rfl (AllOne.cons rfl (AllOne.cons rfl (AllOne.cons rfl AllOne.nil))) rfl (Nat.le_of_ble_eq_true rfl) ?_
                      refine JL_assign rfl ?_
                      refine JL_done_up 176 [box _ _ [_, _, _], box _ _ [_, _, _]] [_, _, _, _, _, _, _, _, _] rfl rfl (by simp only [nrmF]; rfl) rfl rfl ?_
                      refine JC_seq ?_
                      refine JC_fesGet (f := true) (l := l34) (l34.getD i dF) (by repeat (first | with_reducible exact mm0 | refine mmS ?_)) (getD_mem (by omega)) ?_
                      refine JC_drawT mixed 14 [spV 159 [] _, spV 160 [0] _, spV 161 [1] _, spV 162 [2] _, spV 163 [2] _, spC 164 [2, 3, 4] _, spV 165 [2, 5] _, spV 166 [2, 6] _, spV 167 [7] _, spV 168 [8] _, spV 169 [8] _, spV 170 [8, 9, 10] _, spV 171 [8, 11] _, spV 172 [8] _] ⟨OblS_V (fun vals ex ψ => (by
                          refine JL_normQ ⟨176, [(159, _), (160, _), (161, _), (162, _), (163, _), (164, _), (165, _), (166, _), (167, _), (168, _), (169, _), (170, _), (171, _), (172, _)], _⟩ (_ :: _ :: _ :: _ :: _ :: _ :: _ :: _ :: _ :: _ :: _ :: ψ) rfl rfl ?_
                          refine JL_move rfl ?_
                          exact JL_nil (JE_stepV rfl ss0))), OblS_V (fun vals ex ψ => (by
                          refine JL_normQ ⟨176, [(159, _), (160, _), (161, _), (162, _), (163, _), (164, _), (165, _), (166, _), (167, _), (168, _), (169, _), (170, _), (171, _), (172, _)], _⟩ (_ :: _ :: _ :: _ :: _ :: _ :: _ :: _ :: _ :: _ :: _ :: ψ) rfl rfl ?_
                          refine JL_neq rfl rfl ?_
                          rw [show decide ((0 : Int) ≠ 0) = false from rfl]
                          exact JL_nil (JE_stepV rfl ss0))), OblS_V (fun vals ex ψ => (by
                          refine JL_normQ ⟨176, [(159, _), (160, _), (161, _), (162, _), (163, _), (164, _), (165, _), (166, _), (167, _), (168, _), (169, _), (170, _), (171, _), (172, _)], _⟩ (_ :: _ :: _ :: _ :: _ :: _ :: _ :: _ :: _ :: _ :: _ :: ψ) rfl rfl ?_
                          refine JL_move rfl ?_
                          exact JL_nil (JE_stepV rfl ss0))), OblS_V (fun vals ex ψ => (by
                          refine JL_normQ ⟨176, [(159, _), (160, _), (161, _), (162, _), (163, _), (164, _), (165, _), (166, _), (167, _), (168, _), (169, _), (170, _), (171, _), (172, _)], _⟩ (_ :: _ :: _ :: _ :: _ :: _ :: _ :: _ :: _ :: _ :: _ :: ψ) rfl rfl ?_
                          refine JL_guard_yes rfl rfl ?_
                          refine JL_loadA (vs := [_, _, _]) 1 ty36 rfl rfl ⟨rfl, rfl, rfl, trivial⟩ ?_
                          exact JL_nil (JE_stepV rfl ss0))), OblS_V (fun vals ex ψ => (by
                          refine JL_normQ ⟨176, [(159, _), (160, _), (161, _), (162, _), (163, _), (164, _), (165, _), (166, _), (167, _), (168, _), (169, _), (170, _), (171, _), (172, _)], _⟩ (_ :: _ :: _ :: _ :: _ :: _ :: _ :: _ :: _ :: _ :: _ :: ψ) rfl rfl ?_
                          refine JL_guard_yes rfl rfl ?_
                          refine JL_loadA (vs := [_, _, _]) 0 ty36 rfl rfl ⟨rfl, rfl, rfl, trivial⟩ ?_
                          exact JL_nil (JE_stepV rfl ss0))), OblS_C (fun vals ex ψ => (by
                          refine JL_normQ ⟨176, [(159, _), (160, _), (161, _), (162, _), (163, _), (164, _), (165, _), (166, _), (167, _), (168, _), (169, _), (170, _), (171, _), (172, _)], _⟩ (_ :: _ :: _ :: _ :: _ :: _ :: _ :: _ :: _ :: _ :: _ :: ψ) rfl rfl ?_
                          refine JL_guard_yes rfl rfl ?_
                          refine JL_callF' (Asks.cons (holds_of_mem (by repeat (first | with_reducible exact mm0 | refine mmS ?_))) (Asks.cons (holds_of_mem (by repeat (first | with_reducible exact mm0 | refine mmS ?_))) (Asks.cons (holds_of_mem (by repeat (first | with_reducible exact mm0 | refine mmS ?_))) (Asks.cons (holds_of_mem (by repeat (first | with_reducible exact mm0 | refine mmS ?_))) Asks.nil)))) (fcmpq_con (FIn.some (hq2.mono (by decide))) (FIn.some (hq1.mono (by decide)))) rfl ca14 ⟨rfl, rfl, rfl⟩ ?_
                          exact fun v φo hP => JL_nil (JE_stepC φo rfl hP (fun p hp => mapB_l hp) (fun p hp => mapB_r (ss0 p hp))))), OblS_V (fun vals ex ψ => (by
                          refine JL_normQ ⟨176, [(159, _), (160, _), (161, _), (162, _), (163, _), (164, _), (165, _), (166, _), (167, _), (168, _), (169, _), (170, _), (171, _), (172, _)], _⟩ (_ :: _ :: _ :: _ :: _ :: _ :: _ :: _ :: _ :: _ :: _ :: _ :: ψ) rfl rfl ?_
                          generalize vals 5 = x164
                          refine JL_usePost mm0 (fun φo hP => ?_)
                          obtain ⟨rfl, rfl⟩ := hP
                          refine JL_norm _ _ (_ :: _ :: _ :: _ :: _ :: _ :: _ :: _ :: _ :: _ :: _ :: _ :: ψ) rfl rfl rfl ?_
                          refine JL_guard_yes rfl rfl ?_
                          refine JL_gtr rfl rfl ?_
                          rw [decide_eq_false (p := 0 < cmpQ (meanq V W (bg V W t) (i + 1)) (meanq V W (bg V W t) (bg V W (t + 1)))) (fun h => absurd (cmpQ_pos.1 h) (Rat.not_lt.2 hm1))]
                          exact JL_nil (JE_stepV rfl ss0))), OblS_V (fun vals ex ψ => (by
                          refine JL_normQ ⟨176, [(159, _), (160, _), (161, _), (162, _), (163, _), (164, _), (165, _), (166, _), (167, _), (168, _), (169, _), (170, _), (171, _), (172, _)], _⟩ (_ :: _ :: _ :: _ :: _ :: _ :: _ :: _ :: _ :: _ :: _ :: ψ) rfl rfl ?_
                          refine JL_pick_f rfl rfl ?_
                          exact JL_nil (JE_stepV rfl ss0))), OblS_V (fun vals ex ψ => (by
                          refine JL_normQ ⟨176, [(159, _), (160, _), (161, _), (162, _), (163, _), (164, _), (165, _), (166, _), (167, _), (168, _), (169, _), (170, _), (171, _), (172, _)], _⟩ (_ :: _ :: _ :: _ :: _ :: _ :: _ :: _ :: _ :: _ :: _ :: ψ) rfl rfl ?_
                          refine JL_move rfl ?_
                          exact JL_nil (JE_stepV rfl ss0))), OblS_V (fun vals ex ψ => (by
                          refine JL_normQ ⟨176, [(159, _), (160, _), (161, _), (162, _), (163, _), (164, _), (165, _), (166, _), (167, _), (168, _), (169, _), (170, _), (171, _), (172, _)], _⟩ (_ :: _ :: _ :: _ :: _ :: _ :: _ :: _ :: _ :: _ :: _ :: ψ) rfl rfl ?_
                          refine JL_guard_yes rfl rfl ?_
                          refine JL_move rfl ?_
                          exact JL_nil (JE_stepV rfl ss0))), OblS_V (fun vals ex ψ => (by
                          refine JL_normQ ⟨176, [(159, _), (160, _), (161, _), (162, _), (163, _), (164, _), (165, _), (166, _), (167, _), (168, _), (169, _), (170, _), (171, _), (172, _)], _⟩ (_ :: _ :: _ :: _ :: _ :: _ :: _ :: _ :: _ :: _ :: _ :: ψ) rfl rfl ?_
                          refine JL_guard_yes rfl rfl ?_
                          refine JL_move rfl ?_
                          exact JL_nil (JE_stepV rfl ss0))), OblS_V (fun vals ex ψ => (by
                          refine JL_normQ ⟨176, [(159, _), (160, _), (161, _), (162, _), (163, _), (164, _), (165, _), (166, _), (167, _), (168, _), (169, _), (170, _), (171, _), (172, _)], _⟩ (_ :: _ :: _ :: _ :: _ :: _ :: _ :: _ :: _ :: _ :: _ :: ψ) rfl rfl ?_
                          refine JL_guard_yes rfl rfl ?_
                          refine JL_indexAddr i sl28 rfl rfl rfl (by omega) (by first | exact Reads.view (by repeat (first | with_reducible exact mm0 | refine mmS ?_))) (by rw [fcells_length]; omega) ?_
                          exact JL_nil (JE_stepV rfl ss0))), OblS_V (fun vals ex ψ => (by
                          refine JL_normQ ⟨176, [(159, _), (160, _), (161, _), (162, _), (163, _), (164, _), (165, _), (166, _), (167, _), (168, _), (169, _), (170, _), (171, _), (172, _)], _⟩ (_ :: _ :: _ :: _ :: _ :: _ :: _ :: _ :: _ :: _ :: _ :: ψ) rfl rfl ?_
                          refine JL_guard_yes rfl rfl ?_
                          refine JL_loadEA (vs := [_, _, _]) ty36 (Nat.zero_lt_succ _) rfl (by first | exact Reads.view (by repeat (first | with_reducible exact mm0 | refine mmS ?_))) (fcells_getA (by omega)) ?_
                          exact JL_nil (JE_stepV rfl ss0))), OblS_V (fun vals ex ψ => (by
                          refine JL_normQ ⟨176, [(159, _), (160, _), (161, _), (162, _), (163, _), (164, _), (165, _), (166, _), (167, _), (168, _), (169, _), (170, _), (171, _), (172, _)], _⟩ (_ :: _ :: _ :: _ :: _ :: _ :: _ :: _ :: _ :: _ :: _ :: ψ) rfl rfl ?_
                          refine JL_guard_yes rfl rfl ?_
                          refine JL_loadA (vs := [_, _, _]) 0 ty36 rfl rfl ⟨rfl, rfl, rfl, trivial⟩ ?_
                          exact JL_nil (JE_stepV rfl ss0))), trivial⟩ (by kernel_rfl) (fun vals bs => ?_)
                      refine JL_normL [_, _, _] ⟨176, [(159, _), (160, _), (161, _), (162, _), (163, _), (164, _), (165, _), (166, _), (167, _), (168, _), (169, _), (170, _), (171, _), (172, _)], _⟩ [box _ _ [_, _, _], box _ _ [_, _, _]] [_, _, _, _, _, _, _, _, _, _, _, _] rfl rfl rfl rfl ?_
                      generalize vals (0 + 1 + 1 + 1 + 1 + 1) = x164
                      refine JL_guard_yes rfl rfl ?_
                      refine JL_callF' (Asks.cons (holds_of_mem (by repeat (first | with_reducible exact mm0 | refine mmS ?_))) (Asks.cons (holds_of_mem (by repeat (first | with_reducible exact mm0 | refine mmS ?_))) (Asks.cons (holds_of_mem (by repeat (first | with_reducible exact mm0 | refine mmS ?_))) (Asks.cons (holds_of_mem (by repeat (first | with_reducible exact mm0 | refine mmS ?_))) Asks.nil)))) (fcmpq_con (FIn.some ((fes_fqs hl34 i).mono (by decide))) (FIn.some (hq1.mono (by decide)))) rfl ca14 ⟨rfl, rfl, rfl⟩ ?_
                      rintro _ _ ⟨rfl, rfl⟩
                      refine JL_guard_yes rfl rfl ?_
                      refine JL_neq rfl rfl ?_
                      refine JL_split (fun h174 => ?_) (fun h174 => ?_)
                      · exact absurd (cmpQ_zero.2 (by rw [fes_fq hl34, hm2])) h174
                      · refine JL_pick_f rfl rfl ?_
                        refine JL_done_up 176 [box _ _ [_, _, _], box _ _ [_, _, _]] [_, _, _, _, _, _, _, _, _, _, _, _] rfl rfl (by simp only [nrmF]; rfl) rfl rfl ?_
                        refine JC_false rfl ?_
                        refine JC_skip ?_
                        refine JE_block_normal ?_
                        refine JE_then ?_
                        refine JC_region ?_
                        refine JL_move rfl ?_
                        refine JL_add_to rfl rfl (IntWalk.i64_in _ (by omega)) ?_
                        refine JL_assign rfl ?_
                        refine JL_nil_up 176 [box _ _ [_, _, _], box _ _ [_, _, _]] [_, _, _, _, _, _, _, _, _, _, _, _] rfl rfl (by simp only [nrmF]; rfl) rfl rfl ?_
                        refine JE_dropAt 1 ?_
                        refine JE_norm _ [box _ _ [_, _, _]] [_, _, _, _, _, _, _, _, _, _, _, _] rfl rfl rfl ?_
                        refine JE_nextS (i + 1) (by kernel_rfl) ?_ ?_ (by kernel_rfl) ?_
                        · exact ⟨by omega, by omega⟩
                        · first | omega | (dsimp only; omega)
                        · exact subset_app subset_nil (ssS (ssS (ssS (ssS (ssS ss0)))))
                    · refine JL_done_up 176 [box _ _ [_, _, _]] [_, _, _, _, _, _, _] rfl rfl (by simp only [nrmF]; rfl) rfl rfl ?_
                      refine JC_false rfl ?_
                      refine JC_exit ?_
                      refine JE_then_exit ?_
                      refine JE_nextS_exit ?_
                      refine JE_block_exit ?_
                      refine JE_block_normal ?_
                      refine JE_then ?_
                      refine JC_region ?_
                      refine JL_move rfl ?_
                      refine JL_add_to rfl rfl (IntWalk.i64_in _ (by omega)) ?_
                      refine JL_assign rfl ?_
                      refine JL_nil_up 176 [box _ _ [_, _, _]] [_, _, _, _, _, _, _] rfl rfl (by simp only [nrmF]; rfl) rfl rfl ?_
                      refine JE_dropAt 0 ?_
                      refine JE_norm _ [] [_, _, _, _, _, _, _] rfl rfl rfl ?_
                      refine JE_nextS (t + 1) (by kernel_rfl) ?_ ?_ (by kernel_rfl) ?_
                      · exact (by omega : t + 1 ≤ (blkL V W).length)
                      · first | omega | (dsimp only; omega)
                      · exact subset_app subset_nil (ssS (ssS ss0))
                  · obtain ⟨hb3, hb4⟩ := hbf h0
                    refine JC_fesGet (f := true) (l := l34) (l34.getD (bg V W t) dF) (by repeat (first | with_reducible exact mm0 | refine mmS ?_)) (getD_mem (by omega)) ?_
                    refine JC_fesGet (f := true) (l := l34) (l34.getD (bg V W t - 1) dF) (by repeat (first | with_reducible exact mm0 | refine mmS ?_)) (getD_mem (by omega)) ?_
                    refine JC_drawT mixed 21 [spV 113 [] _, spV 114 [0] _, spV 115 [1] _, spV 116 [2] _, spV 117 [2, 3] _, spV 118 [2, 4] _, spV 119 [5] _, spV 120 [5] _, spV 121 [5] _, spV 122 [5, 7, 8] _, spV 123 [5, 9] _, spV 124 [5, 6, 10] _, spV 125 [5, 11] _, spV 126 [5] _, spV 127 [5] _, spV 128 [5] _, spV 129 [5, 14, 15] _, spV 130 [5, 16] _, spV 131 [5, 17] _, spV 132 [5, 13, 18] _, spV 133 [5, 19] _] ⟨OblS_V (fun vals ex ψ => (by
                        refine JL_normQ ⟨176, [(113, _), (114, _), (115, _), (116, _), (117, _), (118, _), (119, _), (120, _), (121, _), (122, _), (123, _), (124, _), (125, _), (126, _), (127, _), (128, _), (129, _), (130, _), (131, _), (132, _), (133, _)], _⟩ (_ :: _ :: _ :: _ :: _ :: _ :: _ :: _ :: _ :: _ :: _ :: ψ) rfl rfl ?_
                        refine JL_move rfl ?_
                        exact JL_nil (JE_stepV rfl ss0))), OblS_V (fun vals ex ψ => (by
                        refine JL_normQ ⟨176, [(113, _), (114, _), (115, _), (116, _), (117, _), (118, _), (119, _), (120, _), (121, _), (122, _), (123, _), (124, _), (125, _), (126, _), (127, _), (128, _), (129, _), (130, _), (131, _), (132, _), (133, _)], _⟩ (_ :: _ :: _ :: _ :: _ :: _ :: _ :: _ :: _ :: _ :: _ :: ψ) rfl rfl ?_
                        refine JL_neq rfl rfl ?_
                        rw [show decide ((0 : Int) ≠ 0) = false from rfl]
                        exact JL_nil (JE_stepV rfl ss0))), OblS_V (fun vals ex ψ => (by
                        refine JL_normQ ⟨176, [(113, _), (114, _), (115, _), (116, _), (117, _), (118, _), (119, _), (120, _), (121, _), (122, _), (123, _), (124, _), (125, _), (126, _), (127, _), (128, _), (129, _), (130, _), (131, _), (132, _), (133, _)], _⟩ (_ :: _ :: _ :: _ :: _ :: _ :: _ :: _ :: _ :: _ :: _ :: ψ) rfl rfl ?_
                        refine JL_move rfl ?_
                        exact JL_nil (JE_stepV rfl ss0))), OblS_V (fun vals ex ψ => (by
                        refine JL_normQ ⟨176, [(113, _), (114, _), (115, _), (116, _), (117, _), (118, _), (119, _), (120, _), (121, _), (122, _), (123, _), (124, _), (125, _), (126, _), (127, _), (128, _), (129, _), (130, _), (131, _), (132, _), (133, _)], _⟩ (_ :: _ :: _ :: _ :: _ :: _ :: _ :: _ :: _ :: _ :: _ :: ψ) rfl rfl ?_
                        refine JL_guard_yes rfl rfl ?_
                        refine JL_move rfl ?_
                        exact JL_nil (JE_stepV rfl ss0))), OblS_V (fun vals ex ψ => (by
                        refine JL_normQ ⟨176, [(113, _), (114, _), (115, _), (116, _), (117, _), (118, _), (119, _), (120, _), (121, _), (122, _), (123, _), (124, _), (125, _), (126, _), (127, _), (128, _), (129, _), (130, _), (131, _), (132, _), (133, _)], _⟩ (_ :: _ :: _ :: _ :: _ :: _ :: _ :: _ :: _ :: _ :: _ :: ψ) rfl rfl ?_
                        refine JL_guard_yes rfl rfl ?_
                        refine JL_gtr rfl rfl ?_
                        rw [show decide ((0 : Int) < (t : Int)) = true from decide_eq_true (by omega)]
                        exact JL_nil (JE_stepV rfl ss0))), OblS_V (fun vals ex ψ => (by
                        refine JL_normQ ⟨176, [(113, _), (114, _), (115, _), (116, _), (117, _), (118, _), (119, _), (120, _), (121, _), (122, _), (123, _), (124, _), (125, _), (126, _), (127, _), (128, _), (129, _), (130, _), (131, _), (132, _), (133, _)], _⟩ (_ :: _ :: _ :: _ :: _ :: _ :: _ :: _ :: _ :: _ :: _ :: ψ) rfl rfl ?_
                        refine JL_guard_yes rfl rfl ?_
                        refine JL_move rfl ?_
                        exact JL_nil (JE_stepV rfl ss0))), OblS_V (fun vals ex ψ => (by
                        refine JL_normQ ⟨176, [(113, _), (114, _), (115, _), (116, _), (117, _), (118, _), (119, _), (120, _), (121, _), (122, _), (123, _), (124, _), (125, _), (126, _), (127, _), (128, _), (129, _), (130, _), (131, _), (132, _), (133, _)], _⟩ (_ :: _ :: _ :: _ :: _ :: _ :: _ :: _ :: _ :: _ :: _ :: ψ) rfl rfl ?_
                        refine JL_guard_yes rfl rfl ?_
                        refine JL_move rfl ?_
                        exact JL_nil (JE_stepV rfl ss0))), OblS_V (fun vals ex ψ => (by
                        refine JL_normQ ⟨176, [(113, _), (114, _), (115, _), (116, _), (117, _), (118, _), (119, _), (120, _), (121, _), (122, _), (123, _), (124, _), (125, _), (126, _), (127, _), (128, _), (129, _), (130, _), (131, _), (132, _), (133, _)], _⟩ (_ :: _ :: _ :: _ :: _ :: _ :: _ :: _ :: _ :: _ :: _ :: ψ) rfl rfl ?_
                        refine JL_guard_yes rfl rfl ?_
                        refine JL_move rfl ?_
                        exact JL_nil (JE_stepV rfl ss0))), OblS_V (fun vals ex ψ => (by
                        refine JL_normQ ⟨176, [(113, _), (114, _), (115, _), (116, _), (117, _), (118, _), (119, _), (120, _), (121, _), (122, _), (123, _), (124, _), (125, _), (126, _), (127, _), (128, _), (129, _), (130, _), (131, _), (132, _), (133, _)], _⟩ (_ :: _ :: _ :: _ :: _ :: _ :: _ :: _ :: _ :: _ :: _ :: ψ) rfl rfl ?_
                        refine JL_guard_yes rfl rfl ?_
                        refine JL_move rfl ?_
                        exact JL_nil (JE_stepV rfl ss0))), OblS_V (fun vals ex ψ => (by
                        refine JL_normQ ⟨176, [(113, _), (114, _), (115, _), (116, _), (117, _), (118, _), (119, _), (120, _), (121, _), (122, _), (123, _), (124, _), (125, _), (126, _), (127, _), (128, _), (129, _), (130, _), (131, _), (132, _), (133, _)], _⟩ (_ :: _ :: _ :: _ :: _ :: _ :: _ :: _ :: _ :: _ :: _ :: ψ) rfl rfl ?_
                        refine JL_guard_yes rfl rfl ?_
                        refine JL_idx t sl22 rfl rfl rfl (by omega) (by first | exact Reads.view (by repeat (first | with_reducible exact mm0 | refine mmS ?_))) (by rw [i64s_length]; omega) ?_
                        exact JL_nil (JE_stepV rfl ss0))), OblS_V (fun vals ex ψ => (by
                        refine JL_normQ ⟨176, [(113, _), (114, _), (115, _), (116, _), (117, _), (118, _), (119, _), (120, _), (121, _), (122, _), (123, _), (124, _), (125, _), (126, _), (127, _), (128, _), (129, _), (130, _), (131, _), (132, _), (133, _)], _⟩ (_ :: _ :: _ :: _ :: _ :: _ :: _ :: _ :: _ :: _ :: _ :: ψ) rfl rfl ?_
                        refine JL_guard_yes rfl rfl ?_
                        refine JL_loadE ty3 rfl (by first | exact Reads.view (by repeat (first | with_reducible exact mm0 | refine mmS ?_))) (i64s_get (by omega)) ?_
                        rw [show (begL V W).getD t 0 = ((bg V W t : Nat) : Int) from begL_get hz (by omega)]
                        exact JL_nil (JE_stepV rfl ss0))), OblS_V (fun vals ex ψ => (by
                        refine JL_normQ ⟨176, [(113, _), (114, _), (115, _), (116, _), (117, _), (118, _), (119, _), (120, _), (121, _), (122, _), (123, _), (124, _), (125, _), (126, _), (127, _), (128, _), (129, _), (130, _), (131, _), (132, _), (133, _)], _⟩ (_ :: _ :: _ :: _ :: _ :: _ :: _ :: _ :: _ :: _ :: _ :: ψ) rfl rfl ?_
                        refine JL_guard_yes rfl rfl ?_
                        refine JL_indexAddr (bg V W t) sl28 rfl rfl rfl (by omega) (by first | exact Reads.view (by repeat (first | with_reducible exact mm0 | refine mmS ?_))) (by rw [fcells_length]; omega) ?_
                        exact JL_nil (JE_stepV rfl ss0))), OblS_V (fun vals ex ψ => (by
                        refine JL_normQ ⟨176, [(113, _), (114, _), (115, _), (116, _), (117, _), (118, _), (119, _), (120, _), (121, _), (122, _), (123, _), (124, _), (125, _), (126, _), (127, _), (128, _), (129, _), (130, _), (131, _), (132, _), (133, _)], _⟩ (_ :: _ :: _ :: _ :: _ :: _ :: _ :: _ :: _ :: _ :: _ :: ψ) rfl rfl ?_
                        refine JL_guard_yes rfl rfl ?_
                        refine JL_loadEA (vs := [_, _, _]) ty36 (Nat.zero_lt_succ _) rfl (by first | exact Reads.view (by repeat (first | with_reducible exact mm0 | refine mmS ?_))) (fcells_getA (by omega)) ?_
                        exact JL_nil (JE_stepV rfl ss0))), OblS_V (fun vals ex ψ => (by
                        refine JL_normQ ⟨176, [(113, _), (114, _), (115, _), (116, _), (117, _), (118, _), (119, _), (120, _), (121, _), (122, _), (123, _), (124, _), (125, _), (126, _), (127, _), (128, _), (129, _), (130, _), (131, _), (132, _), (133, _)], _⟩ (_ :: _ :: _ :: _ :: _ :: _ :: _ :: _ :: _ :: _ :: _ :: ψ) rfl rfl ?_
                        refine JL_guard_yes rfl rfl ?_
                        refine JL_move rfl ?_
                        exact JL_nil (JE_stepV rfl ss0))), OblS_V (fun vals ex ψ => (by
                        refine JL_normQ ⟨176, [(113, _), (114, _), (115, _), (116, _), (117, _), (118, _), (119, _), (120, _), (121, _), (122, _), (123, _), (124, _), (125, _), (126, _), (127, _), (128, _), (129, _), (130, _), (131, _), (132, _), (133, _)], _⟩ (_ :: _ :: _ :: _ :: _ :: _ :: _ :: _ :: _ :: _ :: _ :: ψ) rfl rfl ?_
                        refine JL_guard_yes rfl rfl ?_
                        refine JL_move rfl ?_
                        exact JL_nil (JE_stepV rfl ss0))), OblS_V (fun vals ex ψ => (by
                        refine JL_normQ ⟨176, [(113, _), (114, _), (115, _), (116, _), (117, _), (118, _), (119, _), (120, _), (121, _), (122, _), (123, _), (124, _), (125, _), (126, _), (127, _), (128, _), (129, _), (130, _), (131, _), (132, _), (133, _)], _⟩ (_ :: _ :: _ :: _ :: _ :: _ :: _ :: _ :: _ :: _ :: _ :: ψ) rfl rfl ?_
                        refine JL_guard_yes rfl rfl ?_
                        refine JL_move rfl ?_
                        exact JL_nil (JE_stepV rfl ss0))), OblS_V (fun vals ex ψ => (by
                        refine JL_normQ ⟨176, [(113, _), (114, _), (115, _), (116, _), (117, _), (118, _), (119, _), (120, _), (121, _), (122, _), (123, _), (124, _), (125, _), (126, _), (127, _), (128, _), (129, _), (130, _), (131, _), (132, _), (133, _)], _⟩ (_ :: _ :: _ :: _ :: _ :: _ :: _ :: _ :: _ :: _ :: _ :: ψ) rfl rfl ?_
                        refine JL_guard_yes rfl rfl ?_
                        refine JL_idx t sl22 rfl rfl rfl (by omega) (by first | exact Reads.view (by repeat (first | with_reducible exact mm0 | refine mmS ?_))) (by rw [i64s_length]; omega) ?_
                        exact JL_nil (JE_stepV rfl ss0))), OblS_V (fun vals ex ψ => (by
                        refine JL_normQ ⟨176, [(113, _), (114, _), (115, _), (116, _), (117, _), (118, _), (119, _), (120, _), (121, _), (122, _), (123, _), (124, _), (125, _), (126, _), (127, _), (128, _), (129, _), (130, _), (131, _), (132, _), (133, _)], _⟩ (_ :: _ :: _ :: _ :: _ :: _ :: _ :: _ :: _ :: _ :: _ :: ψ) rfl rfl ?_
                        refine JL_guard_yes rfl rfl ?_
                        refine JL_loadE ty3 rfl (by first | exact Reads.view (by repeat (first | with_reducible exact mm0 | refine mmS ?_))) (i64s_get (by omega)) ?_
                        rw [show (begL V W).getD t 0 = ((bg V W t : Nat) : Int) from begL_get hz (by omega)]
                        exact JL_nil (JE_stepV rfl ss0))), OblS_V (fun vals ex ψ => (by
                        refine JL_normQ ⟨176, [(113, _), (114, _), (115, _), (116, _), (117, _), (118, _), (119, _), (120, _), (121, _), (122, _), (123, _), (124, _), (125, _), (126, _), (127, _), (128, _), (129, _), (130, _), (131, _), (132, _), (133, _)], _⟩ (_ :: _ :: _ :: _ :: _ :: _ :: _ :: _ :: _ :: _ :: _ :: ψ) rfl rfl ?_
                        refine JL_guard_yes rfl rfl ?_
                        refine JL_sub_to rfl rfl (IntWalk.i64_in _ (by omega)) ?_
                        rw [show (((bg V W t : Nat) : Int) - 1 : Int) = ((bg V W t - 1 : Nat) : Int) from by omega]
                        exact JL_nil (JE_stepV rfl ss0))), OblS_V (fun vals ex ψ => (by
                        refine JL_normQ ⟨176, [(113, _), (114, _), (115, _), (116, _), (117, _), (118, _), (119, _), (120, _), (121, _), (122, _), (123, _), (124, _), (125, _), (126, _), (127, _), (128, _), (129, _), (130, _), (131, _), (132, _), (133, _)], _⟩ (_ :: _ :: _ :: _ :: _ :: _ :: _ :: _ :: _ :: _ :: _ :: ψ) rfl rfl ?_
                        refine JL_guard_yes rfl rfl ?_
                        refine JL_indexAddr (bg V W t - 1) sl28 rfl rfl rfl (by omega) (by first | exact Reads.view (by repeat (first | with_reducible exact mm0 | refine mmS ?_))) (by rw [fcells_length]; omega) ?_
                        exact JL_nil (JE_stepV rfl ss0))), OblS_V (fun vals ex ψ => (by
                        refine JL_normQ ⟨176, [(113, _), (114, _), (115, _), (116, _), (117, _), (118, _), (119, _), (120, _), (121, _), (122, _), (123, _), (124, _), (125, _), (126, _), (127, _), (128, _), (129, _), (130, _), (131, _), (132, _), (133, _)], _⟩ (_ :: _ :: _ :: _ :: _ :: _ :: _ :: _ :: _ :: _ :: _ :: ψ) rfl rfl ?_
                        refine JL_guard_yes rfl rfl ?_
                        refine JL_loadEA (vs := [_, _, _]) ty36 (Nat.zero_lt_succ _) rfl (by first | exact Reads.view (by repeat (first | with_reducible exact mm0 | refine mmS ?_))) (fcells_getA (by omega)) ?_
                        exact JL_nil (JE_stepV rfl ss0))), trivial⟩ (by kernel_rfl) (fun vals bs => ?_)
                    refine JL_normL [_, _, _, _] ⟨176, [(113, _), (114, _), (115, _), (116, _), (117, _), (118, _), (119, _), (120, _), (121, _), (122, _), (123, _), (124, _), (125, _), (126, _), (127, _), (128, _), (129, _), (130, _), (131, _), (132, _), (133, _)], _⟩ [box _ _ [_, _, _]] [_, _, _, _, _, _, _, _, _, _, _] rfl rfl rfl rfl ?_
                    refine JL_guard_yes rfl rfl ?_
                    refine JL_callF' (Asks.cons (holds_of_mem (by repeat (first | with_reducible exact mm0 | refine mmS ?_))) (Asks.cons (holds_of_mem (by repeat (first | with_reducible exact mm0 | refine mmS ?_))) (Asks.cons (holds_of_mem (by repeat (first | with_reducible exact mm0 | refine mmS ?_))) (Asks.cons (holds_of_mem (by repeat (first | with_reducible exact mm0 | refine mmS ?_))) Asks.nil)))) (fcmpq_con (FIn.some ((fes_fqs hl34 (bg V W t)).mono (by decide))) (FIn.some ((fes_fqs hl34 (bg V W t - 1)).mono (by decide)))) rfl ca14 ⟨rfl, rfl, rfl⟩ ?_
                    rintro _ _ ⟨rfl, rfl⟩
                    refine JL_guard_yes rfl rfl ?_
                    refine JL_geq rfl rfl ?_
                    refine JL_split (fun h135 => ?_) (fun h135 => ?_)
                    · exact absurd h135 (by have hlt : cmpQ (l34.getD (bg V W t) dF).q (l34.getD (bg V W t - 1) dF).q < 0 := cmpQ_neg.2 (by rw [fes_fq hl34, fes_fq hl34]; exact hb4); omega)
                    · refine JL_guard_yes rfl rfl ?_
                      refine JL_pick_t rfl rfl ?_
                      refine JL_pick_f rfl rfl ?_
                      refine JL_done_up 176 [box _ _ [_, _, _]] [_, _, _, _, _, _, _, _, _, _, _] rfl rfl (by simp only [nrmF]; rfl) rfl rfl ?_
                      refine JC_false rfl ?_
                      refine JC_skip ?_
                      refine JE_then ?_
                      refine JC_seq ?_
                      refine JC_region ?_
                      refine JL_move rfl ?_
                      refine JL_move rfl ?_
                      refine JL_idx t sl22 rfl rfl rfl (by omega) (by first | exact Reads.view (by repeat (first | with_reducible exact mm0 | refine mmS ?_))) (by rw [i64s_length]; omega) ?_
                      refine JL_loadE ty3 rfl (by first | exact Reads.view (by repeat (first | with_reducible exact mm0 | refine mmS ?_))) (i64s_get (by omega)) ?_
                      rw [show (begL V W).getD t 0 = ((bg V W t : Nat) : Int) from begL_get hz (by omega)]
                      refine JL_assign rfl ?_
                      refine JL_done_up 176 [box _ _ [_, _, _]] [_, _, _, _, _, _, _, _, _, _, _] rfl rfl (by simp only [nrmF]; rfl) rfl rfl ?_
                      refine JC_block ?_
                      refine JC_loopS ((Nat)) (fun (i : Nat) => bg V W t ≤ i ∧ i ≤ bg V W (t + 1)) (fun (i : Nat) => bg V W (t + 1) - i) (fun u (i : Nat) => [none, none, none, none, some (u 4), none, none, none, none, none, none, none, none, some (.int .i64 (i : Nat)), some (u 14), some (u 15), none, none, none, none, none, none, none, none, none, none, none, none, none, none, none, none, none, none, none, none, none, none, none, none, none, none, none, none, none, none, none, none, none, none, none, none, none, none, none, none, none, none, none, none, none, none, none, none, none, none, none, none, none, none, none, none, none, none, none, none, none, none, none, none, none, none, none, none, none, none, none, none, none, none, none, none, none, none, none, none, none, none, none, none, none, none, none, none, none, none, none, none, none, none, none, none, none, none, none, none, none, none, none, none, none, none, none, none, none, none, none, none, none, none, none, none, none, none, none, none, none, none, none, none, none, none, some (u 142), some (u 143), some (u 144), some (u 145), some (u 146), some (u 147), some (u 148), some (u 149), some (u 150), some (u 151), some (u 152), some (u 153), some (u 154), some (u 155), some (u 156), some (u 157), some (u 158), some (u 159), some (u 160), some (u 161), some (u 162), some (u 163), some (u 164), some (u 165), some (u 166), some (u 167), some (u 168), some (u 169), some (u 170), some (u 171), some (u 172), some (u 173), some (u 174), some (u 175)]) (fun (i : Nat) => [none]) (fun (i : Nat) => []) (bg V W t) (by kernel_rfl) ?_ (by kernel_rfl) ?_ ?_
                      · exact ⟨Nat.le_refl _, Nat.le_of_lt hb1⟩
                      · exact subset_nil
                      intro u i hC
                      obtain ⟨hi0, hi⟩ := hC
                      refine JC_norm ⟨176, [], [_, _, _, _, _, _, _, _, _, _, _, _, _, _, _, _, _, _, _, _, _, _, _, _, _, _, _, _, _, _, _, _, _, _, _, _, _, _, _, _, _, _, _, _, _, _, _, _, _, _, _, _, _, _, _, _, _, _, _, _, _, _, _, _, _, _, _, _, _, _, _, _, _, _, _, _, _, _, _, _, _, _, _, _, _, _, _, _, _, _, _, _, _, _, _, _, _, _, _, _, _, _, _, _, _, _, _, _, _, _, _, _, _, _, _, _, _, _, _, _, _, _, _, _, _, _, _, _, _, _, _, _, _, _, _, _, _, _, _, _, _, _, _, _, _, _, _, _, _, _, _, _, _, _, _, _, _, _, _, _, _, _, _, _, _, _, _, _, _, _, _, _, _, _, _, _]⟩ [box _ _ [_, _, _]] [_, _, _, _, _, _, _, _, _, _, _] rfl rfl rfl ?_
                      refine JC_seq ?_
                      refine JC_seq ?_
                      refine JC_region ?_
                      refine JL_move rfl ?_
                      refine JL_move rfl ?_
                      refine JL_lss rfl rfl ?_
                      refine JL_split (fun h144 => ?_) (fun h144 => ?_)
                      · refine JL_done_up 176 [box _ _ [_, _, _]] [_, _, _, _, _, _, _, _, _, _, _] rfl rfl (by simp only [nrmF]; rfl) rfl rfl ?_
                        refine JC_true rfl ?_
                        refine JC_skip ?_
                        refine JE_then ?_
                        refine JC_seq ?_
                        refine JC_block ?_
                        refine JC_seq ?_
                        have hpe156 : poolE V W ((bg V W t : Nat) : Int) ((i + 1 : Nat) : Int) = 0 := poolE_ok hz (by omega)
                        obtain ⟨hm1, hm2⟩ := hbp i hi0 (by omega)
                        have hq1 : qs (meanq V W (bg V W t) (bg V W (t + 1))) 3 := qs_meanq hz (by omega)
                        have hq2 : qs (meanq V W (bg V W t) (i + 1)) 3 := qs_meanq hz (by omega)
                        refine JC_region ?_
                        refine JL_move rfl ?_
                        refine JL_move rfl ?_
                        refine JL_move rfl ?_
                        refine JL_move rfl ?_
                        refine JL_idx t sl22 rfl rfl rfl (by omega) (by first | exact Reads.view (by repeat (first | with_reducible exact mm0 | refine mmS ?_))) (by rw [i64s_length]; omega) ?_
                        refine JL_loadE ty3 rfl (by first | exact Reads.view (by repeat (first | with_reducible exact mm0 | refine mmS ?_))) (i64s_get (by omega)) ?_
                        rw [show (begL V W).getD t 0 = ((bg V W t : Nat) : Int) from begL_get hz (by omega)]
                        refine JL_move rfl ?_
                        refine JL_add_to rfl rfl (IntWalk.i64_in _ (by omega)) ?_
                        rw [show ((i : Int) + 1 : Int) = ((i + 1 : Nat) : Int) from by omega]
                        refine JL_callF' (Asks.cons (holds_of_mem (by repeat (first | with_reducible exact mm0 | refine mmS ?_))) (Asks.cons (holds_of_mem (by repeat (first | with_reducible exact mm0 | refine mmS ?_))) Asks.nil)) (ipool_con (by omega) (by omega) (by omega) (by omega)) rfl ca18 ⟨rfl, rfl, rfl, rfl, rfl⟩ ?_
                        rintro _ _ ⟨ad156, cp156, be156, ce156, rfl, rfl⟩
                        rw [poolO_some (hpe156), hpe156]
                        refine JL_move rfl ?_
                        refine JL_extract rfl rfl ?_
                        refine JL_extract rfl rfl ?_
                        refine JL_alloc z36 (fun b14 => ?_)
                        refine JL_store (vs := [_, _, _]) 1 ty36 rfl rfl rfl (AllOne.cons rfl (AllOne.cons rfl (AllOne.cons rfl AllOne.nil))) rfl (Nat.le_of_ble_eq_true rfl) ?_
                        refine JL_assign rfl ?_
                        refine JL_done_up 176 [box _ _ [_, _, _], box _ _ [_, _, _]] [_, _, _, _, _, _, _, _, _, _, _, _, _] rfl rfl (by simp only [nrmF]; rfl) rfl rfl ?_
                        refine JC_seq ?_
                        refine JC_fesGet (f := true) (l := l34) (l34.getD i dF) (by repeat (first | with_reducible exact mm0 | refine mmS ?_)) (getD_mem (by omega)) ?_
                        refine JC_drawT mixed 14 [spV 159 [] _, spV 160 [0] _, spV 161 [1] _, spV 162 [2] _, spV 163 [2] _, spC 164 [2, 3, 4] _, spV 165 [2, 5] _, spV 166 [2, 6] _, spV 167 [7] _, spV 168 [8] _, spV 169 [8] _, spV 170 [8, 9, 10] _, spV 171 [8, 11] _, spV 172 [8] _] ⟨OblS_V (fun vals ex ψ => (by
                            refine JL_normQ ⟨176, [(159, _), (160, _), (161, _), (162, _), (163, _), (164, _), (165, _), (166, _), (167, _), (168, _), (169, _), (170, _), (171, _), (172, _)], _⟩ (_ :: _ :: _ :: _ :: _ :: _ :: _ :: _ :: _ :: _ :: _ :: _ :: _ :: _ :: _ :: ψ) rfl rfl ?_
                            refine JL_move rfl ?_
                            exact JL_nil (JE_stepV rfl ss0))), OblS_V (fun vals ex ψ => (by
                            refine JL_normQ ⟨176, [(159, _), (160, _), (161, _), (162, _), (163, _), (164, _), (165, _), (166, _), (167, _), (168, _), (169, _), (170, _), (171, _), (172, _)], _⟩ (_ :: _ :: _ :: _ :: _ :: _ :: _ :: _ :: _ :: _ :: _ :: _ :: _ :: _ :: _ :: ψ) rfl rfl ?_
                            refine JL_neq rfl rfl ?_
                            rw [show decide ((0 : Int) ≠ 0) = false from rfl]
                            exact JL_nil (JE_stepV rfl ss0))), OblS_V (fun vals ex ψ => (by
                            refine JL_normQ ⟨176, [(159, _), (160, _), (161, _), (162, _), (163, _), (164, _), (165, _), (166, _), (167, _), (168, _), (169, _), (170, _), (171, _), (172, _)], _⟩ (_ :: _ :: _ :: _ :: _ :: _ :: _ :: _ :: _ :: _ :: _ :: _ :: _ :: _ :: _ :: ψ) rfl rfl ?_
                            refine JL_move rfl ?_
                            exact JL_nil (JE_stepV rfl ss0))), OblS_V (fun vals ex ψ => (by
                            refine JL_normQ ⟨176, [(159, _), (160, _), (161, _), (162, _), (163, _), (164, _), (165, _), (166, _), (167, _), (168, _), (169, _), (170, _), (171, _), (172, _)], _⟩ (_ :: _ :: _ :: _ :: _ :: _ :: _ :: _ :: _ :: _ :: _ :: _ :: _ :: _ :: _ :: ψ) rfl rfl ?_
                            refine JL_guard_yes rfl rfl ?_
                            refine JL_loadA (vs := [_, _, _]) 1 ty36 rfl rfl ⟨rfl, rfl, rfl, trivial⟩ ?_
                            exact JL_nil (JE_stepV rfl ss0))), OblS_V (fun vals ex ψ => (by
                            refine JL_normQ ⟨176, [(159, _), (160, _), (161, _), (162, _), (163, _), (164, _), (165, _), (166, _), (167, _), (168, _), (169, _), (170, _), (171, _), (172, _)], _⟩ (_ :: _ :: _ :: _ :: _ :: _ :: _ :: _ :: _ :: _ :: _ :: _ :: _ :: _ :: _ :: ψ) rfl rfl ?_
                            refine JL_guard_yes rfl rfl ?_
                            refine JL_loadA (vs := [_, _, _]) 0 ty36 rfl rfl ⟨rfl, rfl, rfl, trivial⟩ ?_
                            exact JL_nil (JE_stepV rfl ss0))), OblS_C (fun vals ex ψ => (by
                            refine JL_normQ ⟨176, [(159, _), (160, _), (161, _), (162, _), (163, _), (164, _), (165, _), (166, _), (167, _), (168, _), (169, _), (170, _), (171, _), (172, _)], _⟩ (_ :: _ :: _ :: _ :: _ :: _ :: _ :: _ :: _ :: _ :: _ :: _ :: _ :: _ :: _ :: ψ) rfl rfl ?_
                            refine JL_guard_yes rfl rfl ?_
                            refine JL_callF' (Asks.cons (holds_of_mem (by repeat (first | with_reducible exact mm0 | refine mmS ?_))) (Asks.cons (holds_of_mem (by repeat (first | with_reducible exact mm0 | refine mmS ?_))) (Asks.cons (holds_of_mem (by repeat (first | with_reducible exact mm0 | refine mmS ?_))) (Asks.cons (holds_of_mem (by repeat (first | with_reducible exact mm0 | refine mmS ?_))) Asks.nil)))) (fcmpq_con (FIn.some (hq2.mono (by decide))) (FIn.some (hq1.mono (by decide)))) rfl ca14 ⟨rfl, rfl, rfl⟩ ?_
                            exact fun v φo hP => JL_nil (JE_stepC φo rfl hP (fun p hp => mapB_l hp) (fun p hp => mapB_r (ss0 p hp))))), OblS_V (fun vals ex ψ => (by
                            refine JL_normQ ⟨176, [(159, _), (160, _), (161, _), (162, _), (163, _), (164, _), (165, _), (166, _), (167, _), (168, _), (169, _), (170, _), (171, _), (172, _)], _⟩ (_ :: _ :: _ :: _ :: _ :: _ :: _ :: _ :: _ :: _ :: _ :: _ :: _ :: _ :: _ :: _ :: ψ) rfl rfl ?_
                            generalize vals 5 = x164
                            refine JL_usePost mm0 (fun φo hP => ?_)
                            obtain ⟨rfl, rfl⟩ := hP
                            refine JL_norm _ _ (_ :: _ :: _ :: _ :: _ :: _ :: _ :: _ :: _ :: _ :: _ :: _ :: _ :: _ :: _ :: _ :: ψ) rfl rfl rfl ?_
                            refine JL_guard_yes rfl rfl ?_
                            refine JL_gtr rfl rfl ?_
                            rw [decide_eq_false (p := 0 < cmpQ (meanq V W (bg V W t) (i + 1)) (meanq V W (bg V W t) (bg V W (t + 1)))) (fun h => absurd (cmpQ_pos.1 h) (Rat.not_lt.2 hm1))]
                            exact JL_nil (JE_stepV rfl ss0))), OblS_V (fun vals ex ψ => (by
                            refine JL_normQ ⟨176, [(159, _), (160, _), (161, _), (162, _), (163, _), (164, _), (165, _), (166, _), (167, _), (168, _), (169, _), (170, _), (171, _), (172, _)], _⟩ (_ :: _ :: _ :: _ :: _ :: _ :: _ :: _ :: _ :: _ :: _ :: _ :: _ :: _ :: _ :: ψ) rfl rfl ?_
                            refine JL_pick_f rfl rfl ?_
                            exact JL_nil (JE_stepV rfl ss0))), OblS_V (fun vals ex ψ => (by
                            refine JL_normQ ⟨176, [(159, _), (160, _), (161, _), (162, _), (163, _), (164, _), (165, _), (166, _), (167, _), (168, _), (169, _), (170, _), (171, _), (172, _)], _⟩ (_ :: _ :: _ :: _ :: _ :: _ :: _ :: _ :: _ :: _ :: _ :: _ :: _ :: _ :: _ :: ψ) rfl rfl ?_
                            refine JL_move rfl ?_
                            exact JL_nil (JE_stepV rfl ss0))), OblS_V (fun vals ex ψ => (by
                            refine JL_normQ ⟨176, [(159, _), (160, _), (161, _), (162, _), (163, _), (164, _), (165, _), (166, _), (167, _), (168, _), (169, _), (170, _), (171, _), (172, _)], _⟩ (_ :: _ :: _ :: _ :: _ :: _ :: _ :: _ :: _ :: _ :: _ :: _ :: _ :: _ :: _ :: ψ) rfl rfl ?_
                            refine JL_guard_yes rfl rfl ?_
                            refine JL_move rfl ?_
                            exact JL_nil (JE_stepV rfl ss0))), OblS_V (fun vals ex ψ => (by
                            refine JL_normQ ⟨176, [(159, _), (160, _), (161, _), (162, _), (163, _), (164, _), (165, _), (166, _), (167, _), (168, _), (169, _), (170, _), (171, _), (172, _)], _⟩ (_ :: _ :: _ :: _ :: _ :: _ :: _ :: _ :: _ :: _ :: _ :: _ :: _ :: _ :: _ :: ψ) rfl rfl ?_
                            refine JL_guard_yes rfl rfl ?_
                            refine JL_move rfl ?_
                            exact JL_nil (JE_stepV rfl ss0))), OblS_V (fun vals ex ψ => (by
                            refine JL_normQ ⟨176, [(159, _), (160, _), (161, _), (162, _), (163, _), (164, _), (165, _), (166, _), (167, _), (168, _), (169, _), (170, _), (171, _), (172, _)], _⟩ (_ :: _ :: _ :: _ :: _ :: _ :: _ :: _ :: _ :: _ :: _ :: _ :: _ :: _ :: _ :: ψ) rfl rfl ?_
                            refine JL_guard_yes rfl rfl ?_
                            refine JL_indexAddr i sl28 rfl rfl rfl (by omega) (by first | exact Reads.view (by repeat (first | with_reducible exact mm0 | refine mmS ?_))) (by rw [fcells_length]; omega) ?_
                            exact JL_nil (JE_stepV rfl ss0))), OblS_V (fun vals ex ψ => (by
                            refine JL_normQ ⟨176, [(159, _), (160, _), (161, _), (162, _), (163, _), (164, _), (165, _), (166, _), (167, _), (168, _), (169, _), (170, _), (171, _), (172, _)], _⟩ (_ :: _ :: _ :: _ :: _ :: _ :: _ :: _ :: _ :: _ :: _ :: _ :: _ :: _ :: _ :: ψ) rfl rfl ?_
                            refine JL_guard_yes rfl rfl ?_
                            refine JL_loadEA (vs := [_, _, _]) ty36 (Nat.zero_lt_succ _) rfl (by first | exact Reads.view (by repeat (first | with_reducible exact mm0 | refine mmS ?_))) (fcells_getA (by omega)) ?_
                            exact JL_nil (JE_stepV rfl ss0))), OblS_V (fun vals ex ψ => (by
                            refine JL_normQ ⟨176, [(159, _), (160, _), (161, _), (162, _), (163, _), (164, _), (165, _), (166, _), (167, _), (168, _), (169, _), (170, _), (171, _), (172, _)], _⟩ (_ :: _ :: _ :: _ :: _ :: _ :: _ :: _ :: _ :: _ :: _ :: _ :: _ :: _ :: _ :: ψ) rfl rfl ?_
                            refine JL_guard_yes rfl rfl ?_
                            refine JL_loadA (vs := [_, _, _]) 0 ty36 rfl rfl ⟨rfl, rfl, rfl, trivial⟩ ?_
                            exact JL_nil (JE_stepV rfl ss0))), trivial⟩ (by kernel_rfl) (fun vals bs => ?_)
                        refine JL_normL [_, _, _] ⟨176, [(159, _), (160, _), (161, _), (162, _), (163, _), (164, _), (165, _), (166, _), (167, _), (168, _), (169, _), (170, _), (171, _), (172, _)], _⟩ [box _ _ [_, _, _], box _ _ [_, _, _]] [_, _, _, _, _, _, _, _, _, _, _, _, _, _, _, _] rfl rfl rfl rfl ?_
                        generalize vals (0 + 1 + 1 + 1 + 1 + 1) = x164
                        refine JL_guard_yes rfl rfl ?_
                        refine JL_callF' (Asks.cons (holds_of_mem (by repeat (first | with_reducible exact mm0 | refine mmS ?_))) (Asks.cons (holds_of_mem (by repeat (first | with_reducible exact mm0 | refine mmS ?_))) (Asks.cons (holds_of_mem (by repeat (first | with_reducible exact mm0 | refine mmS ?_))) (Asks.cons (holds_of_mem (by repeat (first | with_reducible exact mm0 | refine mmS ?_))) Asks.nil)))) (fcmpq_con (FIn.some ((fes_fqs hl34 i).mono (by decide))) (FIn.some (hq1.mono (by decide)))) rfl ca14 ⟨rfl, rfl, rfl⟩ ?_
                        rintro _ _ ⟨rfl, rfl⟩
                        refine JL_guard_yes rfl rfl ?_
                        refine JL_neq rfl rfl ?_
                        refine JL_split (fun h174 => ?_) (fun h174 => ?_)
                        · exact absurd (cmpQ_zero.2 (by rw [fes_fq hl34, hm2])) h174
                        · refine JL_pick_f rfl rfl ?_
                          refine JL_done_up 176 [box _ _ [_, _, _], box _ _ [_, _, _]] [_, _, _, _, _, _, _, _, _, _, _, _, _, _, _, _] rfl rfl (by simp only [nrmF]; rfl) rfl rfl ?_
                          refine JC_false rfl ?_
                          refine JC_skip ?_
                          refine JE_block_normal ?_
                          refine JE_then ?_
                          refine JC_region ?_
                          refine JL_move rfl ?_
                          refine JL_add_to rfl rfl (IntWalk.i64_in _ (by omega)) ?_
                          refine JL_assign rfl ?_
                          refine JL_nil_up 176 [box _ _ [_, _, _], box _ _ [_, _, _]] [_, _, _, _, _, _, _, _, _, _, _, _, _, _, _, _] rfl rfl (by simp only [nrmF]; rfl) rfl rfl ?_
                          refine JE_dropAt 1 ?_
                          refine JE_norm _ [box _ _ [_, _, _]] [_, _, _, _, _, _, _, _, _, _, _, _, _, _, _, _] rfl rfl rfl ?_
                          refine JE_nextS (i + 1) (by kernel_rfl) ?_ ?_ (by kernel_rfl) ?_
                          · exact ⟨by omega, by omega⟩
                          · first | omega | (dsimp only; omega)
                          · exact subset_app subset_nil (ssS (ssS (ssS (ssS (ssS ss0)))))
                      · refine JL_done_up 176 [box _ _ [_, _, _]] [_, _, _, _, _, _, _, _, _, _, _] rfl rfl (by simp only [nrmF]; rfl) rfl rfl ?_
                        refine JC_false rfl ?_
                        refine JC_exit ?_
                        refine JE_then_exit ?_
                        refine JE_nextS_exit ?_
                        refine JE_block_exit ?_
                        refine JE_block_normal ?_
                        refine JE_then ?_
                        refine JC_region ?_
                        refine JL_move rfl ?_
                        refine JL_add_to rfl rfl (IntWalk.i64_in _ (by omega)) ?_
                        refine JL_assign rfl ?_
                        refine JL_nil_up 176 [box _ _ [_, _, _]] [_, _, _, _, _, _, _, _, _, _, _] rfl rfl (by simp only [nrmF]; rfl) rfl rfl ?_
                        refine JE_dropAt 0 ?_
                        refine JE_norm _ [] [_, _, _, _, _, _, _, _, _, _, _] rfl rfl rfl ?_
                        refine JE_nextS (t + 1) (by kernel_rfl) ?_ ?_ (by kernel_rfl) ?_
                        · exact (by omega : t + 1 ≤ (blkL V W).length)
                        · first | omega | (dsimp only; omega)
                        · exact subset_app subset_nil (ssS (ssS (ssS (ssS (ssS (ssS ss0))))))
                · refine JL_done_up 176 [] [_, _, _, _, _] rfl rfl (by simp only [nrmF]; rfl) rfl rfl ?_
                  refine JC_false rfl ?_
                  refine JC_exit ?_
                  refine JE_then_exit ?_
                  refine JE_nextS_exit ?_
                  refine JE_block_exit ?_
                  refine JE_then ?_
                  refine JC_seq ?_
                  refine JC_region ?_
                  refine JL_assign rfl ?_
                  refine JL_done_up 176 [] [_, _, _, _, _] rfl rfl (by simp only [nrmF]; rfl) rfl rfl ?_
                  refine JC_ret ?_
                  refine JE_ret (vs := [_]) [] Tryd.results5 ⟨rfl, rfl⟩ ?_ ?_
                  · exact ⟨rfl, rfl⟩
                  · exact all_nil
            · refine JL_guard_yes rfl rfl ?_
              refine JL_move rfl ?_
              refine JL_guard_no rfl rfl ?_
              refine JL_guard_no rfl rfl ?_
              refine JL_guard_no rfl rfl ?_
              refine JL_guard_no rfl rfl ?_
              refine JL_guard_yes rfl rfl ?_
              refine JL_pick_f rfl rfl ?_
              refine JL_pick_f rfl rfl ?_
              refine JL_done_up 176 [] [_, _, _, _, _] rfl rfl (by simp only [nrmF]; rfl) rfl rfl ?_
              refine JC_false rfl ?_
              refine JC_skip ?_
              refine JE_then ?_
              refine JC_seq ?_
              refine JC_seq ?_
              refine JC_region ?_
              refine JL_assign rfl ?_
              refine JL_done_up 176 [] [_, _, _, _, _] rfl rfl (by simp only [nrmF]; rfl) rfl rfl ?_
              refine JC_block ?_
              refine JC_loopS ((Nat)) (fun (t : Nat) => t ≤ (blkL V W).length) (fun (t : Nat) => (blkL V W).length - t) (fun u (t : Nat) => [none, none, none, none, some (u 4), none, none, none, none, some (.int .i64 (t : Nat)), some (u 10), some (u 11), some (u 12), some (u 13), some (u 14), some (u 15), none, none, none, none, none, none, none, none, none, none, none, none, none, none, none, none, none, none, none, none, none, none, none, none, none, none, none, none, none, none, none, none, none, none, none, none, none, none, none, none, none, none, none, none, none, none, none, none, none, none, none, none, none, none, none, none, none, none, none, none, none, none, none, none, none, none, none, none, some (u 84), some (u 85), some (u 86), some (u 87), some (u 88), some (u 89), some (u 90), some (u 91), some (u 92), some (u 93), some (u 94), some (u 95), some (u 96), some (u 97), some (u 98), some (u 99), some (u 100), some (u 101), some (u 102), some (u 103), some (u 104), some (u 105), some (u 106), some (u 107), some (u 108), some (u 109), some (u 110), some (u 111), some (u 112), some (u 113), some (u 114), some (u 115), some (u 116), some (u 117), some (u 118), some (u 119), some (u 120), some (u 121), some (u 122), some (u 123), some (u 124), some (u 125), some (u 126), some (u 127), some (u 128), some (u 129), some (u 130), some (u 131), some (u 132), some (u 133), some (u 134), some (u 135), some (u 136), some (u 137), some (u 138), some (u 139), some (u 140), some (u 141), some (u 142), some (u 143), some (u 144), some (u 145), some (u 146), some (u 147), some (u 148), some (u 149), some (u 150), some (u 151), some (u 152), some (u 153), some (u 154), some (u 155), some (u 156), some (u 157), some (u 158), some (u 159), some (u 160), some (u 161), some (u 162), some (u 163), some (u 164), some (u 165), some (u 166), some (u 167), some (u 168), some (u 169), some (u 170), some (u 171), some (u 172), some (u 173), some (u 174), some (u 175)]) (fun (t : Nat) => []) (fun (t : Nat) => []) (0) (by kernel_rfl) ?_ (by kernel_rfl) ?_ ?_
              · exact Nat.zero_le _
              · exact subset_nil
              intro u t ht
              refine JC_norm ⟨176, [], [_, _, _, _, _, _, _, _, _, _, _, _, _, _, _, _, _, _, _, _, _, _, _, _, _, _, _, _, _, _, _, _, _, _, _, _, _, _, _, _, _, _, _, _, _, _, _, _, _, _, _, _, _, _, _, _, _, _, _, _, _, _, _, _, _, _, _, _, _, _, _, _, _, _, _, _, _, _, _, _, _, _, _, _, _, _, _, _, _, _, _, _, _, _, _, _, _, _, _, _, _, _, _, _, _, _, _, _, _, _, _, _, _, _, _, _, _, _, _, _, _, _, _, _, _, _, _, _, _, _, _, _, _, _, _, _, _, _, _, _, _, _, _, _, _, _, _, _, _, _, _, _, _, _, _, _, _, _, _, _, _, _, _, _, _, _, _, _, _, _, _, _, _, _, _, _]⟩ [] [_, _, _, _, _] rfl rfl rfl ?_
              refine JC_seq ?_
              refine JC_seq ?_
              refine JC_region ?_
              refine JL_move rfl ?_
              refine JL_move rfl ?_
              refine JL_len sl22 rfl ?_
              refine JL_lss rfl rfl ?_
              refine JL_split (fun h87 => ?_) (fun h87 => ?_)
              · refine JL_done_up 176 [] [_, _, _, _, _] rfl rfl (by simp only [nrmF]; rfl) rfl rfl ?_
                refine JC_true rfl ?_
                refine JC_skip ?_
                refine JE_then ?_
                refine JC_seq ?_
                refine JC_block ?_
                refine JC_seq ?_
                refine JC_region ?_
                refine JL_move rfl ?_
                refine JL_len sl22 rfl ?_
                refine JL_assign rfl ?_
                refine JL_done_up 176 [] [_, _, _, _, _] rfl rfl (by simp only [nrmF]; rfl) rfl rfl ?_
                refine JC_seq ?_
                refine JC_seq ?_
                refine JC_region ?_
                refine JL_move rfl ?_
                refine JL_add_to rfl rfl (IntWalk.i64_in _ (by omega)) ?_
                refine JL_move rfl ?_
                refine JL_len sl22 rfl ?_
                refine JL_lss rfl rfl ?_
                refine JL_done_up 176 [] [_, _, _, _, _] rfl rfl (by simp only [nrmF]; rfl) rfl rfl ?_
                refine JC_cutT ((Nat)) (fun (e : Nat) => e = bg V W (t + 1)) (fun u (e : Nat) => [none, none, none, none, none, none, none, none, none, none, some (.int .i64 (e : Nat)), none, none, none, none, none, none, none, none, none, none, none, none, none, none, none, none, none, none, none, none, none, none, none, none, none, none, none, none, none, none, none, none, none, none, none, none, none, none, none, none, none, none, none, none, none, none, none, none, none, none, none, none, none, none, none, none, none, none, none, none, none, none, none, none, none, none, none, none, none, none, none, none, none, none, none, none, none, none, none, none, none, none, none, none, none, none, some (u 97), some (u 98), some (u 99), some (u 100), some (u 101), none, none, none, none, none, none, none, none, none, none, none, none, none, none, none, none, none, none, none, none, none, none, none, none, none, none, none, none, none, none, none, none, none, none, none, none, none, none, none, none, none, none, none, none, none, none, none, none, none, none, none, none, none, none, none, none, none, none, none, none, none, none, none, none, none, none, none, none, none, none, none, none, none, none]) (fun (e : Nat) => []) (fun (e : Nat) => []) ?_ ?_
                · refine JC_cond rfl (fun hb => ?_) (fun hb => ?_)
                  · have h96 := of_decide_eq_true hb
                    refine JC_region ?_
                    refine JL_move rfl ?_
                    refine JL_move rfl ?_
                    refine JL_add_to rfl rfl (IntWalk.i64_in _ (by omega)) ?_
                    rw [show ((t : Int) + 1 : Int) = ((t + 1 : Nat) : Int) from by omega]
                    refine JL_idx (t + 1) sl22 rfl rfl rfl (by omega) (by first | exact Reads.view (by repeat (first | with_reducible exact mm0 | refine mmS ?_))) (by rw [i64s_length]; omega) ?_
                    refine JL_loadE ty3 rfl (by first | exact Reads.view (by repeat (first | with_reducible exact mm0 | refine mmS ?_))) (i64s_get (by omega)) ?_
                    rw [show (begL V W).getD (t + 1) 0 = ((bg V W (t + 1) : Nat) : Int) from begL_get hz (by omega)]
                    refine JL_assign rfl ?_
                    refine JL_nil_up 176 [] [_, _, _, _, _] rfl rfl (by simp only [nrmF]; rfl) rfl rfl ?_
                    refine JE_midS (bg V W (t + 1)) (by kernel_rfl) ?_ (by kernel_rfl) ?_
                    · exact rfl
                    · exact subset_app subset_nil ss0
                  · have h96 := of_decide_eq_false hb
                    refine JC_skip ?_
                    refine JE_midS (V.length) (by kernel_rfl) ?_ (by kernel_rfl) ?_
                    · exact (by rw [show t + 1 = (blkL V W).length from by omega]; exact (bg_end hz).symm)
                    · exact subset_app subset_nil ss0
                intro u e he
                refine JC_norm ⟨176, [], [_, _, _, _, _, _, _, _, _, _, _, _, _, _, _, _, _, _, _, _, _, _, _, _, _, _, _, _, _, _, _, _, _, _, _, _, _, _, _, _, _, _, _, _, _, _, _, _, _, _, _, _, _, _, _, _, _, _, _, _, _, _, _, _, _, _, _, _, _, _, _, _, _, _, _, _, _, _, _, _, _, _, _, _, _, _, _, _, _, _, _, _, _, _, _, _, _, _, _, _, _, _, _, _, _, _, _, _, _, _, _, _, _, _, _, _, _, _, _, _, _, _, _, _, _, _, _, _, _, _, _, _, _, _, _, _, _, _, _, _, _, _, _, _, _, _, _, _, _, _, _, _, _, _, _, _, _, _, _, _, _, _, _, _, _, _, _, _, _, _, _, _, _, _, _, _]⟩ [] [_, _, _, _, _] rfl rfl rfl ?_
                subst he
                obtain ⟨hb1, hb2, hbp, hbf⟩ := block_at hz (t := t) (by omega)
                refine JC_seq ?_
                have hpe110 : poolE V W ((bg V W t : Nat) : Int) ((bg V W (t + 1) : Nat) : Int) = 0 := poolE_ok hz (by omega)
                refine JC_region ?_
                refine JL_move rfl ?_
                refine JL_move rfl ?_
                refine JL_move rfl ?_
                refine JL_move rfl ?_
                refine JL_idx t sl22 rfl rfl rfl (by omega) (by first | exact Reads.view (by repeat (first | with_reducible exact mm0 | refine mmS ?_))) (by rw [i64s_length]; omega) ?_
                refine JL_loadE ty3 rfl (by first | exact Reads.view (by repeat (first | with_reducible exact mm0 | refine mmS ?_))) (i64s_get (by omega)) ?_
                rw [show (begL V W).getD t 0 = ((bg V W t : Nat) : Int) from begL_get hz (by omega)]
                refine JL_move rfl ?_
                refine JL_callF' (Asks.cons (holds_of_mem (by repeat (first | with_reducible exact mm0 | refine mmS ?_))) (Asks.cons (holds_of_mem (by repeat (first | with_reducible exact mm0 | refine mmS ?_))) Asks.nil)) (ipool_con (by omega) (by omega) (by omega) (by omega)) rfl ca18 ⟨rfl, rfl, rfl, rfl, rfl⟩ ?_
                rintro _ _ ⟨ad110, cp110, be110, ce110, rfl, rfl⟩
                rw [poolO_some (hpe110), hpe110]
                refine JL_move rfl ?_
                refine JL_extract rfl rfl ?_
                refine JL_extract rfl rfl ?_
                refine JL_alloc z36 (fun b11 => ?_)
                refine JL_store (vs := [_, _, _]) 0 ty36 rfl rfl rfl (AllOne.cons rfl (AllOne.cons rfl (AllOne.cons rfl AllOne.nil))) rfl (Nat.le_of_ble_eq_true rfl) ?_
                refine JL_assign rfl ?_
                refine JL_done_up 176 [box _ _ [_, _, _]] [_, _, _, _, _, _, _] rfl rfl (by simp only [nrmF]; rfl) rfl rfl ?_
                refine JC_seq ?_
                refine JC_seq ?_
                rcases Nat.eq_zero_or_pos t with h0 | h0
                · refine JC_drawT mixed 21 [spV 113 [] _, spV 114 [0] _, spV 115 [1] _, spV 116 [2] _, spV 117 [2, 3] _, spV 118 [2, 4] _, spV 119 [5] _, spV 120 [5] _, spV 121 [5] _, spV 122 [5, 7, 8] _, spV 123 [5, 9] _, spV 124 [5, 6, 10] _, spV 125 [5, 11] _, spV 126 [5] _, spV 127 [5] _, spV 128 [5] _, spV 129 [5, 14, 15] _, spV 130 [5, 16] _, spV 131 [5, 17] _, spV 132 [5, 13, 18] _, spV 133 [5, 19] _] ⟨OblS_V (fun vals ex ψ => (by
                      refine JL_normQ ⟨176, [(113, _), (114, _), (115, _), (116, _), (117, _), (118, _), (119, _), (120, _), (121, _), (122, _), (123, _), (124, _), (125, _), (126, _), (127, _), (128, _), (129, _), (130, _), (131, _), (132, _), (133, _)], _⟩ (_ :: _ :: _ :: _ :: _ :: _ :: _ :: ψ) rfl rfl ?_
                      refine JL_move rfl ?_
                      exact JL_nil (JE_stepV rfl ss0))), OblS_V (fun vals ex ψ => (by
                      refine JL_normQ ⟨176, [(113, _), (114, _), (115, _), (116, _), (117, _), (118, _), (119, _), (120, _), (121, _), (122, _), (123, _), (124, _), (125, _), (126, _), (127, _), (128, _), (129, _), (130, _), (131, _), (132, _), (133, _)], _⟩ (_ :: _ :: _ :: _ :: _ :: _ :: _ :: ψ) rfl rfl ?_
                      refine JL_neq rfl rfl ?_
                      rw [show decide ((0 : Int) ≠ 0) = false from rfl]
                      exact JL_nil (JE_stepV rfl ss0))), OblS_V (fun vals ex ψ => (by
                      refine JL_normQ ⟨176, [(113, _), (114, _), (115, _), (116, _), (117, _), (118, _), (119, _), (120, _), (121, _), (122, _), (123, _), (124, _), (125, _), (126, _), (127, _), (128, _), (129, _), (130, _), (131, _), (132, _), (133, _)], _⟩ (_ :: _ :: _ :: _ :: _ :: _ :: _ :: ψ) rfl rfl ?_
                      refine JL_move rfl ?_
                      exact JL_nil (JE_stepV rfl ss0))), OblS_V (fun vals ex ψ => (by
                      refine JL_normQ ⟨176, [(113, _), (114, _), (115, _), (116, _), (117, _), (118, _), (119, _), (120, _), (121, _), (122, _), (123, _), (124, _), (125, _), (126, _), (127, _), (128, _), (129, _), (130, _), (131, _), (132, _), (133, _)], _⟩ (_ :: _ :: _ :: _ :: _ :: _ :: _ :: ψ) rfl rfl ?_
                      refine JL_guard_yes rfl rfl ?_
                      refine JL_move rfl ?_
                      exact JL_nil (JE_stepV rfl ss0))), OblS_V (fun vals ex ψ => (by
                      refine JL_normQ ⟨176, [(113, _), (114, _), (115, _), (116, _), (117, _), (118, _), (119, _), (120, _), (121, _), (122, _), (123, _), (124, _), (125, _), (126, _), (127, _), (128, _), (129, _), (130, _), (131, _), (132, _), (133, _)], _⟩ (_ :: _ :: _ :: _ :: _ :: _ :: _ :: ψ) rfl rfl ?_
                      refine JL_guard_yes rfl rfl ?_
                      refine JL_gtr rfl rfl ?_
                      rw [show decide ((0 : Int) < (t : Int)) = false from decide_eq_false (by omega)]
                      exact JL_nil (JE_stepV rfl ss0))), OblS_V (fun vals ex ψ => (by
                      refine JL_normQ ⟨176, [(113, _), (114, _), (115, _), (116, _), (117, _), (118, _), (119, _), (120, _), (121, _), (122, _), (123, _), (124, _), (125, _), (126, _), (127, _), (128, _), (129, _), (130, _), (131, _), (132, _), (133, _)], _⟩ (_ :: _ :: _ :: _ :: _ :: _ :: _ :: ψ) rfl rfl ?_
                      refine JL_guard_yes rfl rfl ?_
                      refine JL_move rfl ?_
                      exact JL_nil (JE_stepV rfl ss0))), OblS_V (fun vals ex ψ => (by
                      refine JL_normQ ⟨176, [(113, _), (114, _), (115, _), (116, _), (117, _), (118, _), (119, _), (120, _), (121, _), (122, _), (123, _), (124, _), (125, _), (126, _), (127, _), (128, _), (129, _), (130, _), (131, _), (132, _), (133, _)], _⟩ (_ :: _ :: _ :: _ :: _ :: _ :: _ :: ψ) rfl rfl ?_
                      refine JL_guard_no rfl rfl ?_
                      exact JL_nil (JE_stepV rfl ss0))), OblS_V (fun vals ex ψ => (by
                      refine JL_normQ ⟨176, [(113, _), (114, _), (115, _), (116, _), (117, _), (118, _), (119, _), (120, _), (121, _), (122, _), (123, _), (124, _), (125, _), (126, _), (127, _), (128, _), (129, _), (130, _), (131, _), (132, _), (133, _)], _⟩ (_ :: _ :: _ :: _ :: _ :: _ :: _ :: ψ) rfl rfl ?_
                      refine JL_guard_no rfl rfl ?_
                      exact JL_nil (JE_stepV rfl ss0))), OblS_V (fun vals ex ψ => (by
                      refine JL_normQ ⟨176, [(113, _), (114, _), (115, _), (116, _), (117, _), (118, _), (119, _), (120, _), (121, _), (122, _), (123, _), (124, _), (125, _), (126, _), (127, _), (128, _), (129, _), (130, _), (131, _), (132, _), (133, _)], _⟩ (_ :: _ :: _ :: _ :: _ :: _ :: _ :: ψ) rfl rfl ?_
                      refine JL_guard_no rfl rfl ?_
                      exact JL_nil (JE_stepV rfl ss0))), OblS_V (fun vals ex ψ => (by
                      refine JL_normQ ⟨176, [(113, _), (114, _), (115, _), (116, _), (117, _), (118, _), (119, _), (120, _), (121, _), (122, _), (123, _), (124, _), (125, _), (126, _), (127, _), (128, _), (129, _), (130, _), (131, _), (132, _), (133, _)], _⟩ (_ :: _ :: _ :: _ :: _ :: _ :: _ :: ψ) rfl rfl ?_
                      refine JL_guard_no rfl rfl ?_
                      exact JL_nil (JE_stepV rfl ss0))), OblS_V (fun vals ex ψ => (by
                      refine JL_normQ ⟨176, [(113, _), (114, _), (115, _), (116, _), (117, _), (118, _), (119, _), (120, _), (121, _), (122, _), (123, _), (124, _), (125, _), (126, _), (127, _), (128, _), (129, _), (130, _), (131, _), (132, _), (133, _)], _⟩ (_ :: _ :: _ :: _ :: _ :: _ :: _ :: ψ) rfl rfl ?_
                      refine JL_guard_no rfl rfl ?_
                      exact JL_nil (JE_stepV rfl ss0))), OblS_V (fun vals ex ψ => (by
                      refine JL_normQ ⟨176, [(113, _), (114, _), (115, _), (116, _), (117, _), (118, _), (119, _), (120, _), (121, _), (122, _), (123, _), (124, _), (125, _), (126, _), (127, _), (128, _), (129, _), (130, _), (131, _), (132, _), (133, _)], _⟩ (_ :: _ :: _ :: _ :: _ :: _ :: _ :: ψ) rfl rfl ?_
                      refine JL_guard_no rfl rfl ?_
                      exact JL_nil (JE_stepV rfl ss0))), OblS_V (fun vals ex ψ => (by
                      refine JL_normQ ⟨176, [(113, _), (114, _), (115, _), (116, _), (117, _), (118, _), (119, _), (120, _), (121, _), (122, _), (123, _), (124, _), (125, _), (126, _), (127, _), (128, _), (129, _), (130, _), (131, _), (132, _), (133, _)], _⟩ (_ :: _ :: _ :: _ :: _ :: _ :: _ :: ψ) rfl rfl ?_
                      refine JL_guard_no rfl rfl ?_
                      exact JL_nil (JE_stepV rfl ss0))), OblS_V (fun vals ex ψ => (by
                      refine JL_normQ ⟨176, [(113, _), (114, _), (115, _), (116, _), (117, _), (118, _), (119, _), (120, _), (121, _), (122, _), (123, _), (124, _), (125, _), (126, _), (127, _), (128, _), (129, _), (130, _), (131, _), (132, _), (133, _)], _⟩ (_ :: _ :: _ :: _ :: _ :: _ :: _ :: ψ) rfl rfl ?_
                      refine JL_guard_no rfl rfl ?_
                      exact JL_nil (JE_stepV rfl ss0))), OblS_V (fun vals ex ψ => (by
                      refine JL_normQ ⟨176, [(113, _), (114, _), (115, _), (116, _), (117, _), (118, _), (119, _), (120, _), (121, _), (122, _), (123, _), (124, _), (125, _), (126, _), (127, _), (128, _), (129, _), (130, _), (131, _), (132, _), (133, _)], _⟩ (_ :: _ :: _ :: _ :: _ :: _ :: _ :: ψ) rfl rfl ?_
                      refine JL_guard_no rfl rfl ?_
                      exact JL_nil (JE_stepV rfl ss0))), OblS_V (fun vals ex ψ => (by
                      refine JL_normQ ⟨176, [(113, _), (114, _), (115, _), (116, _), (117, _), (118, _), (119, _), (120, _), (121, _), (122, _), (123, _), (124, _), (125, _), (126, _), (127, _), (128, _), (129, _), (130, _), (131, _), (132, _), (133, _)], _⟩ (_ :: _ :: _ :: _ :: _ :: _ :: _ :: ψ) rfl rfl ?_
                      refine JL_guard_no rfl rfl ?_
                      exact JL_nil (JE_stepV rfl ss0))), OblS_V (fun vals ex ψ => (by
                      refine JL_normQ ⟨176, [(113, _), (114, _), (115, _), (116, _), (117, _), (118, _), (119, _), (120, _), (121, _), (122, _), (123, _), (124, _), (125, _), (126, _), (127, _), (128, _), (129, _), (130, _), (131, _), (132, _), (133, _)], _⟩ (_ :: _ :: _ :: _ :: _ :: _ :: _ :: ψ) rfl rfl ?_
                      refine JL_guard_no rfl rfl ?_
                      exact JL_nil (JE_stepV rfl ss0))), OblS_V (fun vals ex ψ => (by
                      refine JL_normQ ⟨176, [(113, _), (114, _), (115, _), (116, _), (117, _), (118, _), (119, _), (120, _), (121, _), (122, _), (123, _), (124, _), (125, _), (126, _), (127, _), (128, _), (129, _), (130, _), (131, _), (132, _), (133, _)], _⟩ (_ :: _ :: _ :: _ :: _ :: _ :: _ :: ψ) rfl rfl ?_
                      refine JL_guard_no rfl rfl ?_
                      exact JL_nil (JE_stepV rfl ss0))), OblS_V (fun vals ex ψ => (by
                      refine JL_normQ ⟨176, [(113, _), (114, _), (115, _), (116, _), (117, _), (118, _), (119, _), (120, _), (121, _), (122, _), (123, _), (124, _), (125, _), (126, _), (127, _), (128, _), (129, _), (130, _), (131, _), (132, _), (133, _)], _⟩ (_ :: _ :: _ :: _ :: _ :: _ :: _ :: ψ) rfl rfl ?_
                      refine JL_guard_no rfl rfl ?_
                      exact JL_nil (JE_stepV rfl ss0))), OblS_V (fun vals ex ψ => (by
                      refine JL_normQ ⟨176, [(113, _), (114, _), (115, _), (116, _), (117, _), (118, _), (119, _), (120, _), (121, _), (122, _), (123, _), (124, _), (125, _), (126, _), (127, _), (128, _), (129, _), (130, _), (131, _), (132, _), (133, _)], _⟩ (_ :: _ :: _ :: _ :: _ :: _ :: _ :: ψ) rfl rfl ?_
                      refine JL_guard_no rfl rfl ?_
                      exact JL_nil (JE_stepV rfl ss0))), OblS_V (fun vals ex ψ => (by
                      refine JL_normQ ⟨176, [(113, _), (114, _), (115, _), (116, _), (117, _), (118, _), (119, _), (120, _), (121, _), (122, _), (123, _), (124, _), (125, _), (126, _), (127, _), (128, _), (129, _), (130, _), (131, _), (132, _), (133, _)], _⟩ (_ :: _ :: _ :: _ :: _ :: _ :: _ :: ψ) rfl rfl ?_
                      refine JL_guard_no rfl rfl ?_
                      exact JL_nil (JE_stepV rfl ss0))), trivial⟩ (by kernel_rfl) (fun vals bs => ?_)
                  refine JL_normL [_, _, _, _] ⟨176, [(113, _), (114, _), (115, _), (116, _), (117, _), (118, _), (119, _), (120, _), (121, _), (122, _), (123, _), (124, _), (125, _), (126, _), (127, _), (128, _), (129, _), (130, _), (131, _), (132, _), (133, _)], _⟩ [box _ _ [_, _, _]] [_, _, _, _, _, _, _] rfl rfl rfl rfl ?_
                  refine JL_guard_no rfl rfl ?_
                  refine JL_guard_no rfl rfl ?_
                  refine JL_guard_yes rfl rfl ?_
                  refine JL_pick_f rfl rfl ?_
                  refine JL_pick_f rfl rfl ?_
                  refine JL_done_up 176 [box _ _ [_, _, _]] [_, _, _, _, _, _, _] rfl rfl (by simp only [nrmF]; rfl) rfl rfl ?_
                  refine JC_false rfl ?_
                  refine JC_skip ?_
                  refine JE_then ?_
                  refine JC_seq ?_
                  refine JC_region ?_
                  refine JL_move rfl ?_
                  refine JL_move rfl ?_
                  refine JL_idx t sl22 rfl rfl rfl (by omega) (by first | exact Reads.view (by repeat (first | with_reducible exact mm0 | refine mmS ?_))) (by rw [i64s_length]; omega) ?_
                  refine JL_loadE ty3 rfl (by first | exact Reads.view (by repeat (first | with_reducible exact mm0 | refine mmS ?_))) (i64s_get (by omega)) ?_
                  rw [show (begL V W).getD t 0 = ((bg V W t : Nat) : Int) from begL_get hz (by omega)]
                  refine JL_assign rfl ?_
                  refine JL_done_up 176 [box _ _ [_, _, _]] [_, _, _, _, _, _, _] rfl rfl (by simp only [nrmF]; rfl) rfl rfl ?_
                  refine JC_block ?_
                  refine JC_loopS ((Nat)) (fun (i : Nat) => bg V W t ≤ i ∧ i ≤ bg V W (t + 1)) (fun (i : Nat) => bg V W (t + 1) - i) (fun u (i : Nat) => [none, none, none, none, some (u 4), none, none, none, none, none, none, none, none, some (.int .i64 (i : Nat)), some (u 14), some (u 15), none, none, none, none, none, none, none, none, none, none, none, none, none, none, none, none, none, none, none, none, none, none, none, none, none, none, none, none, none, none, none, none, none, none, none, none, none, none, none, none, none, none, none, none, none, none, none, none, none, none, none, none, none, none, none, none, none, none, none, none, none, none, none, none, none, none, none, none, none, none, none, none, none, none, none, none, none, none, none, none, none, none, none, none, none, none, none, none, none, none, none, none, none, none, none, none, none, none, none, none, none, none, none, none, none, none, none, none, none, none, none, none, none, none, none, none, none, none, none, none, none, none, none, none, none, none, some (u 142), some (u 143), some (u 144), some (u 145), some (u 146), some (u 147), some (u 148), some (u 149), some (u 150), some (u 151), some (u 152), some (u 153), some (u 154), some (u 155), some (u 156), some (u 157), some (u 158), some (u 159), some (u 160), some (u 161), some (u 162), some (u 163), some (u 164), some (u 165), some (u 166), some (u 167), some (u 168), some (u 169), some (u 170), some (u 171), some (u 172), some (u 173), some (u 174), some (u 175)]) (fun (i : Nat) => [none]) (fun (i : Nat) => []) (bg V W t) (by kernel_rfl) ?_ (by kernel_rfl) ?_ ?_
                  · exact ⟨Nat.le_refl _, Nat.le_of_lt hb1⟩
                  · exact subset_nil
                  intro u i hC
                  obtain ⟨hi0, hi⟩ := hC
                  refine JC_norm ⟨176, [], [_, _, _, _, _, _, _, _, _, _, _, _, _, _, _, _, _, _, _, _, _, _, _, _, _, _, _, _, _, _, _, _, _, _, _, _, _, _, _, _, _, _, _, _, _, _, _, _, _, _, _, _, _, _, _, _, _, _, _, _, _, _, _, _, _, _, _, _, _, _, _, _, _, _, _, _, _, _, _, _, _, _, _, _, _, _, _, _, _, _, _, _, _, _, _, _, _, _, _, _, _, _, _, _, _, _, _, _, _, _, _, _, _, _, _, _, _, _, _, _, _, _, _, _, _, _, _, _, _, _, _, _, _, _, _, _, _, _, _, _, _, _, _, _, _, _, _, _, _, _, _, _, _, _, _, _, _, _, _, _, _, _, _, _, _, _, _, _, _, _, _, _, _, _, _, _]⟩ [box _ _ [_, _, _]] [_, _, _, _, _, _, _] rfl rfl rfl ?_
                  refine JC_seq ?_
                  refine JC_seq ?_
                  refine JC_region ?_
                  refine JL_move rfl ?_
                  refine JL_move rfl ?_
                  refine JL_lss rfl rfl ?_
                  refine JL_split (fun h144 => ?_) (fun h144 => ?_)
                  · refine JL_done_up 176 [box _ _ [_, _, _]] [_, _, _, _, _, _, _] rfl rfl (by simp only [nrmF]; rfl) rfl rfl ?_
                    refine JC_true rfl ?_
                    refine JC_skip ?_
                    refine JE_then ?_
                    refine JC_seq ?_
                    refine JC_block ?_
                    refine JC_seq ?_
                    have hpe156 : poolE V W ((bg V W t : Nat) : Int) ((i + 1 : Nat) : Int) = 0 := poolE_ok hz (by omega)
                    obtain ⟨hm1, hm2⟩ := hbp i hi0 (by omega)
                    have hq1 : qs (meanq V W (bg V W t) (bg V W (t + 1))) 3 := qs_meanq hz (by omega)
                    have hq2 : qs (meanq V W (bg V W t) (i + 1)) 3 := qs_meanq hz (by omega)
                    refine JC_region ?_
                    refine JL_move rfl ?_
                    refine JL_move rfl ?_
                    refine JL_move rfl ?_
                    refine JL_move rfl ?_
                    refine JL_idx t sl22 rfl rfl rfl (by omega) (by first | exact Reads.view (by repeat (first | with_reducible exact mm0 | refine mmS ?_))) (by rw [i64s_length]; omega) ?_
                    refine JL_loadE ty3 rfl (by first | exact Reads.view (by repeat (first | with_reducible exact mm0 | refine mmS ?_))) (i64s_get (by omega)) ?_
                    rw [show (begL V W).getD t 0 = ((bg V W t : Nat) : Int) from begL_get hz (by omega)]
                    refine JL_move rfl ?_
                    refine JL_add_to rfl rfl (IntWalk.i64_in _ (by omega)) ?_
                    rw [show ((i : Int) + 1 : Int) = ((i + 1 : Nat) : Int) from by omega]
                    refine JL_callF' (Asks.cons (holds_of_mem (by repeat (first | with_reducible exact mm0 | refine mmS ?_))) (Asks.cons (holds_of_mem (by repeat (first | with_reducible exact mm0 | refine mmS ?_))) Asks.nil)) (ipool_con (by omega) (by omega) (by omega) (by omega)) rfl ca18 ⟨rfl, rfl, rfl, rfl, rfl⟩ ?_
                    rintro _ _ ⟨ad156, cp156, be156, ce156, rfl, rfl⟩
                    rw [poolO_some (hpe156), hpe156]
                    refine JL_move rfl ?_
                    refine JL_extract rfl rfl ?_
                    refine JL_extract rfl rfl ?_
                    refine JL_alloc z36 (fun b14 => ?_)
                    refine JL_store (vs := [_, _, _]) 1 ty36 rfl rfl rfl (AllOne.cons rfl (AllOne.cons rfl (AllOne.cons rfl AllOne.nil))) rfl (Nat.le_of_ble_eq_true rfl) ?_
                    refine JL_assign rfl ?_
                    refine JL_done_up 176 [box _ _ [_, _, _], box _ _ [_, _, _]] [_, _, _, _, _, _, _, _, _] rfl rfl (by simp only [nrmF]; rfl) rfl rfl ?_
                    refine JC_seq ?_
                    refine JC_fesGet (f := true) (l := l34) (l34.getD i dF) (by repeat (first | with_reducible exact mm0 | refine mmS ?_)) (getD_mem (by omega)) ?_
                    refine JC_drawT mixed 14 [spV 159 [] _, spV 160 [0] _, spV 161 [1] _, spV 162 [2] _, spV 163 [2] _, spC 164 [2, 3, 4] _, spV 165 [2, 5] _, spV 166 [2, 6] _, spV 167 [7] _, spV 168 [8] _, spV 169 [8] _, spV 170 [8, 9, 10] _, spV 171 [8, 11] _, spV 172 [8] _] ⟨OblS_V (fun vals ex ψ => (by
                        refine JL_normQ ⟨176, [(159, _), (160, _), (161, _), (162, _), (163, _), (164, _), (165, _), (166, _), (167, _), (168, _), (169, _), (170, _), (171, _), (172, _)], _⟩ (_ :: _ :: _ :: _ :: _ :: _ :: _ :: _ :: _ :: _ :: _ :: ψ) rfl rfl ?_
                        refine JL_move rfl ?_
                        exact JL_nil (JE_stepV rfl ss0))), OblS_V (fun vals ex ψ => (by
                        refine JL_normQ ⟨176, [(159, _), (160, _), (161, _), (162, _), (163, _), (164, _), (165, _), (166, _), (167, _), (168, _), (169, _), (170, _), (171, _), (172, _)], _⟩ (_ :: _ :: _ :: _ :: _ :: _ :: _ :: _ :: _ :: _ :: _ :: ψ) rfl rfl ?_
                        refine JL_neq rfl rfl ?_
                        rw [show decide ((0 : Int) ≠ 0) = false from rfl]
                        exact JL_nil (JE_stepV rfl ss0))), OblS_V (fun vals ex ψ => (by
                        refine JL_normQ ⟨176, [(159, _), (160, _), (161, _), (162, _), (163, _), (164, _), (165, _), (166, _), (167, _), (168, _), (169, _), (170, _), (171, _), (172, _)], _⟩ (_ :: _ :: _ :: _ :: _ :: _ :: _ :: _ :: _ :: _ :: _ :: ψ) rfl rfl ?_
                        refine JL_move rfl ?_
                        exact JL_nil (JE_stepV rfl ss0))), OblS_V (fun vals ex ψ => (by
                        refine JL_normQ ⟨176, [(159, _), (160, _), (161, _), (162, _), (163, _), (164, _), (165, _), (166, _), (167, _), (168, _), (169, _), (170, _), (171, _), (172, _)], _⟩ (_ :: _ :: _ :: _ :: _ :: _ :: _ :: _ :: _ :: _ :: _ :: ψ) rfl rfl ?_
                        refine JL_guard_yes rfl rfl ?_
                        refine JL_loadA (vs := [_, _, _]) 1 ty36 rfl rfl ⟨rfl, rfl, rfl, trivial⟩ ?_
                        exact JL_nil (JE_stepV rfl ss0))), OblS_V (fun vals ex ψ => (by
                        refine JL_normQ ⟨176, [(159, _), (160, _), (161, _), (162, _), (163, _), (164, _), (165, _), (166, _), (167, _), (168, _), (169, _), (170, _), (171, _), (172, _)], _⟩ (_ :: _ :: _ :: _ :: _ :: _ :: _ :: _ :: _ :: _ :: _ :: ψ) rfl rfl ?_
                        refine JL_guard_yes rfl rfl ?_
                        refine JL_loadA (vs := [_, _, _]) 0 ty36 rfl rfl ⟨rfl, rfl, rfl, trivial⟩ ?_
                        exact JL_nil (JE_stepV rfl ss0))), OblS_C (fun vals ex ψ => (by
                        refine JL_normQ ⟨176, [(159, _), (160, _), (161, _), (162, _), (163, _), (164, _), (165, _), (166, _), (167, _), (168, _), (169, _), (170, _), (171, _), (172, _)], _⟩ (_ :: _ :: _ :: _ :: _ :: _ :: _ :: _ :: _ :: _ :: _ :: ψ) rfl rfl ?_
                        refine JL_guard_yes rfl rfl ?_
                        refine JL_callF' (Asks.cons (holds_of_mem (by repeat (first | with_reducible exact mm0 | refine mmS ?_))) (Asks.cons (holds_of_mem (by repeat (first | with_reducible exact mm0 | refine mmS ?_))) (Asks.cons (holds_of_mem (by repeat (first | with_reducible exact mm0 | refine mmS ?_))) (Asks.cons (holds_of_mem (by repeat (first | with_reducible exact mm0 | refine mmS ?_))) Asks.nil)))) (fcmpq_con (FIn.some (hq2.mono (by decide))) (FIn.some (hq1.mono (by decide)))) rfl ca14 ⟨rfl, rfl, rfl⟩ ?_
                        exact fun v φo hP => JL_nil (JE_stepC φo rfl hP (fun p hp => mapB_l hp) (fun p hp => mapB_r (ss0 p hp))))), OblS_V (fun vals ex ψ => (by
                        refine JL_normQ ⟨176, [(159, _), (160, _), (161, _), (162, _), (163, _), (164, _), (165, _), (166, _), (167, _), (168, _), (169, _), (170, _), (171, _), (172, _)], _⟩ (_ :: _ :: _ :: _ :: _ :: _ :: _ :: _ :: _ :: _ :: _ :: _ :: ψ) rfl rfl ?_
                        generalize vals 5 = x164
                        refine JL_usePost mm0 (fun φo hP => ?_)
                        obtain ⟨rfl, rfl⟩ := hP
                        refine JL_norm _ _ (_ :: _ :: _ :: _ :: _ :: _ :: _ :: _ :: _ :: _ :: _ :: _ :: ψ) rfl rfl rfl ?_
                        refine JL_guard_yes rfl rfl ?_
                        refine JL_gtr rfl rfl ?_
                        rw [decide_eq_false (p := 0 < cmpQ (meanq V W (bg V W t) (i + 1)) (meanq V W (bg V W t) (bg V W (t + 1)))) (fun h => absurd (cmpQ_pos.1 h) (Rat.not_lt.2 hm1))]
                        exact JL_nil (JE_stepV rfl ss0))), OblS_V (fun vals ex ψ => (by
                        refine JL_normQ ⟨176, [(159, _), (160, _), (161, _), (162, _), (163, _), (164, _), (165, _), (166, _), (167, _), (168, _), (169, _), (170, _), (171, _), (172, _)], _⟩ (_ :: _ :: _ :: _ :: _ :: _ :: _ :: _ :: _ :: _ :: _ :: ψ) rfl rfl ?_
                        refine JL_pick_f rfl rfl ?_
                        exact JL_nil (JE_stepV rfl ss0))), OblS_V (fun vals ex ψ => (by
                        refine JL_normQ ⟨176, [(159, _), (160, _), (161, _), (162, _), (163, _), (164, _), (165, _), (166, _), (167, _), (168, _), (169, _), (170, _), (171, _), (172, _)], _⟩ (_ :: _ :: _ :: _ :: _ :: _ :: _ :: _ :: _ :: _ :: _ :: ψ) rfl rfl ?_
                        refine JL_move rfl ?_
                        exact JL_nil (JE_stepV rfl ss0))), OblS_V (fun vals ex ψ => (by
                        refine JL_normQ ⟨176, [(159, _), (160, _), (161, _), (162, _), (163, _), (164, _), (165, _), (166, _), (167, _), (168, _), (169, _), (170, _), (171, _), (172, _)], _⟩ (_ :: _ :: _ :: _ :: _ :: _ :: _ :: _ :: _ :: _ :: _ :: ψ) rfl rfl ?_
                        refine JL_guard_yes rfl rfl ?_
                        refine JL_move rfl ?_
                        exact JL_nil (JE_stepV rfl ss0))), OblS_V (fun vals ex ψ => (by
                        refine JL_normQ ⟨176, [(159, _), (160, _), (161, _), (162, _), (163, _), (164, _), (165, _), (166, _), (167, _), (168, _), (169, _), (170, _), (171, _), (172, _)], _⟩ (_ :: _ :: _ :: _ :: _ :: _ :: _ :: _ :: _ :: _ :: _ :: ψ) rfl rfl ?_
                        refine JL_guard_yes rfl rfl ?_
                        refine JL_move rfl ?_
                        exact JL_nil (JE_stepV rfl ss0))), OblS_V (fun vals ex ψ => (by
                        refine JL_normQ ⟨176, [(159, _), (160, _), (161, _), (162, _), (163, _), (164, _), (165, _), (166, _), (167, _), (168, _), (169, _), (170, _), (171, _), (172, _)], _⟩ (_ :: _ :: _ :: _ :: _ :: _ :: _ :: _ :: _ :: _ :: _ :: ψ) rfl rfl ?_
                        refine JL_guard_yes rfl rfl ?_
                        refine JL_indexAddr i sl28 rfl rfl rfl (by omega) (by first | exact Reads.view (by repeat (first | with_reducible exact mm0 | refine mmS ?_))) (by rw [fcells_length]; omega) ?_
                        exact JL_nil (JE_stepV rfl ss0))), OblS_V (fun vals ex ψ => (by
                        refine JL_normQ ⟨176, [(159, _), (160, _), (161, _), (162, _), (163, _), (164, _), (165, _), (166, _), (167, _), (168, _), (169, _), (170, _), (171, _), (172, _)], _⟩ (_ :: _ :: _ :: _ :: _ :: _ :: _ :: _ :: _ :: _ :: _ :: ψ) rfl rfl ?_
                        refine JL_guard_yes rfl rfl ?_
                        refine JL_loadEA (vs := [_, _, _]) ty36 (Nat.zero_lt_succ _) rfl (by first | exact Reads.view (by repeat (first | with_reducible exact mm0 | refine mmS ?_))) (fcells_getA (by omega)) ?_
                        exact JL_nil (JE_stepV rfl ss0))), OblS_V (fun vals ex ψ => (by
                        refine JL_normQ ⟨176, [(159, _), (160, _), (161, _), (162, _), (163, _), (164, _), (165, _), (166, _), (167, _), (168, _), (169, _), (170, _), (171, _), (172, _)], _⟩ (_ :: _ :: _ :: _ :: _ :: _ :: _ :: _ :: _ :: _ :: _ :: ψ) rfl rfl ?_
                        refine JL_guard_yes rfl rfl ?_
                        refine JL_loadA (vs := [_, _, _]) 0 ty36 rfl rfl ⟨rfl, rfl, rfl, trivial⟩ ?_
                        exact JL_nil (JE_stepV rfl ss0))), trivial⟩ (by kernel_rfl) (fun vals bs => ?_)
                    refine JL_normL [_, _, _] ⟨176, [(159, _), (160, _), (161, _), (162, _), (163, _), (164, _), (165, _), (166, _), (167, _), (168, _), (169, _), (170, _), (171, _), (172, _)], _⟩ [box _ _ [_, _, _], box _ _ [_, _, _]] [_, _, _, _, _, _, _, _, _, _, _, _] rfl rfl rfl rfl ?_
                    generalize vals (0 + 1 + 1 + 1 + 1 + 1) = x164
                    refine JL_guard_yes rfl rfl ?_
                    refine JL_callF' (Asks.cons (holds_of_mem (by repeat (first | with_reducible exact mm0 | refine mmS ?_))) (Asks.cons (holds_of_mem (by repeat (first | with_reducible exact mm0 | refine mmS ?_))) (Asks.cons (holds_of_mem (by repeat (first | with_reducible exact mm0 | refine mmS ?_))) (Asks.cons (holds_of_mem (by repeat (first | with_reducible exact mm0 | refine mmS ?_))) Asks.nil)))) (fcmpq_con (FIn.some ((fes_fqs hl34 i).mono (by decide))) (FIn.some (hq1.mono (by decide)))) rfl ca14 ⟨rfl, rfl, rfl⟩ ?_
                    rintro _ _ ⟨rfl, rfl⟩
                    refine JL_guard_yes rfl rfl ?_
                    refine JL_neq rfl rfl ?_
                    refine JL_split (fun h174 => ?_) (fun h174 => ?_)
                    · exact absurd (cmpQ_zero.2 (by rw [fes_fq hl34, hm2])) h174
                    · refine JL_pick_f rfl rfl ?_
                      refine JL_done_up 176 [box _ _ [_, _, _], box _ _ [_, _, _]] [_, _, _, _, _, _, _, _, _, _, _, _] rfl rfl (by simp only [nrmF]; rfl) rfl rfl ?_
                      refine JC_false rfl ?_
                      refine JC_skip ?_
                      refine JE_block_normal ?_
                      refine JE_then ?_
                      refine JC_region ?_
                      refine JL_move rfl ?_
                      refine JL_add_to rfl rfl (IntWalk.i64_in _ (by omega)) ?_
                      refine JL_assign rfl ?_
                      refine JL_nil_up 176 [box _ _ [_, _, _], box _ _ [_, _, _]] [_, _, _, _, _, _, _, _, _, _, _, _] rfl rfl (by simp only [nrmF]; rfl) rfl rfl ?_
                      refine JE_dropAt 1 ?_
                      refine JE_norm _ [box _ _ [_, _, _]] [_, _, _, _, _, _, _, _, _, _, _, _] rfl rfl rfl ?_
                      refine JE_nextS (i + 1) (by kernel_rfl) ?_ ?_ (by kernel_rfl) ?_
                      · exact ⟨by omega, by omega⟩
                      · first | omega | (dsimp only; omega)
                      · exact subset_app subset_nil (ssS (ssS (ssS (ssS (ssS ss0)))))
                  · refine JL_done_up 176 [box _ _ [_, _, _]] [_, _, _, _, _, _, _] rfl rfl (by simp only [nrmF]; rfl) rfl rfl ?_
                    refine JC_false rfl ?_
                    refine JC_exit ?_
                    refine JE_then_exit ?_
                    refine JE_nextS_exit ?_
                    refine JE_block_exit ?_
                    refine JE_block_normal ?_
                    refine JE_then ?_
                    refine JC_region ?_
                    refine JL_move rfl ?_
                    refine JL_add_to rfl rfl (IntWalk.i64_in _ (by omega)) ?_
                    refine JL_assign rfl ?_
                    refine JL_nil_up 176 [box _ _ [_, _, _]] [_, _, _, _, _, _, _] rfl rfl (by simp only [nrmF]; rfl) rfl rfl ?_
                    refine JE_dropAt 0 ?_
                    refine JE_norm _ [] [_, _, _, _, _, _, _] rfl rfl rfl ?_
                    refine JE_nextS (t + 1) (by kernel_rfl) ?_ ?_ (by kernel_rfl) ?_
                    · exact (by omega : t + 1 ≤ (blkL V W).length)
                    · first | omega | (dsimp only; omega)
                    · exact subset_app subset_nil (ssS (ssS ss0))
                · obtain ⟨hb3, hb4⟩ := hbf h0
                  refine JC_fesGet (f := true) (l := l34) (l34.getD (bg V W t) dF) (by repeat (first | with_reducible exact mm0 | refine mmS ?_)) (getD_mem (by omega)) ?_
                  refine JC_fesGet (f := true) (l := l34) (l34.getD (bg V W t - 1) dF) (by repeat (first | with_reducible exact mm0 | refine mmS ?_)) (getD_mem (by omega)) ?_
                  refine JC_drawT mixed 21 [spV 113 [] _, spV 114 [0] _, spV 115 [1] _, spV 116 [2] _, spV 117 [2, 3] _, spV 118 [2, 4] _, spV 119 [5] _, spV 120 [5] _, spV 121 [5] _, spV 122 [5, 7, 8] _, spV 123 [5, 9] _, spV 124 [5, 6, 10] _, spV 125 [5, 11] _, spV 126 [5] _, spV 127 [5] _, spV 128 [5] _, spV 129 [5, 14, 15] _, spV 130 [5, 16] _, spV 131 [5, 17] _, spV 132 [5, 13, 18] _, spV 133 [5, 19] _] ⟨OblS_V (fun vals ex ψ => (by
                      refine JL_normQ ⟨176, [(113, _), (114, _), (115, _), (116, _), (117, _), (118, _), (119, _), (120, _), (121, _), (122, _), (123, _), (124, _), (125, _), (126, _), (127, _), (128, _), (129, _), (130, _), (131, _), (132, _), (133, _)], _⟩ (_ :: _ :: _ :: _ :: _ :: _ :: _ :: _ :: _ :: _ :: _ :: ψ) rfl rfl ?_
                      refine JL_move rfl ?_
                      exact JL_nil (JE_stepV rfl ss0))), OblS_V (fun vals ex ψ => (by
                      refine JL_normQ ⟨176, [(113, _), (114, _), (115, _), (116, _), (117, _), (118, _), (119, _), (120, _), (121, _), (122, _), (123, _), (124, _), (125, _), (126, _), (127, _), (128, _), (129, _), (130, _), (131, _), (132, _), (133, _)], _⟩ (_ :: _ :: _ :: _ :: _ :: _ :: _ :: _ :: _ :: _ :: _ :: ψ) rfl rfl ?_
                      refine JL_neq rfl rfl ?_
                      rw [show decide ((0 : Int) ≠ 0) = false from rfl]
                      exact JL_nil (JE_stepV rfl ss0))), OblS_V (fun vals ex ψ => (by
                      refine JL_normQ ⟨176, [(113, _), (114, _), (115, _), (116, _), (117, _), (118, _), (119, _), (120, _), (121, _), (122, _), (123, _), (124, _), (125, _), (126, _), (127, _), (128, _), (129, _), (130, _), (131, _), (132, _), (133, _)], _⟩ (_ :: _ :: _ :: _ :: _ :: _ :: _ :: _ :: _ :: _ :: _ :: ψ) rfl rfl ?_
                      refine JL_move rfl ?_
                      exact JL_nil (JE_stepV rfl ss0))), OblS_V (fun vals ex ψ => (by
                      refine JL_normQ ⟨176, [(113, _), (114, _), (115, _), (116, _), (117, _), (118, _), (119, _), (120, _), (121, _), (122, _), (123, _), (124, _), (125, _), (126, _), (127, _), (128, _), (129, _), (130, _), (131, _), (132, _), (133, _)], _⟩ (_ :: _ :: _ :: _ :: _ :: _ :: _ :: _ :: _ :: _ :: _ :: ψ) rfl rfl ?_
                      refine JL_guard_yes rfl rfl ?_
                      refine JL_move rfl ?_
                      exact JL_nil (JE_stepV rfl ss0))), OblS_V (fun vals ex ψ => (by
                      refine JL_normQ ⟨176, [(113, _), (114, _), (115, _), (116, _), (117, _), (118, _), (119, _), (120, _), (121, _), (122, _), (123, _), (124, _), (125, _), (126, _), (127, _), (128, _), (129, _), (130, _), (131, _), (132, _), (133, _)], _⟩ (_ :: _ :: _ :: _ :: _ :: _ :: _ :: _ :: _ :: _ :: _ :: ψ) rfl rfl ?_
                      refine JL_guard_yes rfl rfl ?_
                      refine JL_gtr rfl rfl ?_
                      rw [show decide ((0 : Int) < (t : Int)) = true from decide_eq_true (by omega)]
                      exact JL_nil (JE_stepV rfl ss0))), OblS_V (fun vals ex ψ => (by
                      refine JL_normQ ⟨176, [(113, _), (114, _), (115, _), (116, _), (117, _), (118, _), (119, _), (120, _), (121, _), (122, _), (123, _), (124, _), (125, _), (126, _), (127, _), (128, _), (129, _), (130, _), (131, _), (132, _), (133, _)], _⟩ (_ :: _ :: _ :: _ :: _ :: _ :: _ :: _ :: _ :: _ :: _ :: ψ) rfl rfl ?_
                      refine JL_guard_yes rfl rfl ?_
                      refine JL_move rfl ?_
                      exact JL_nil (JE_stepV rfl ss0))), OblS_V (fun vals ex ψ => (by
                      refine JL_normQ ⟨176, [(113, _), (114, _), (115, _), (116, _), (117, _), (118, _), (119, _), (120, _), (121, _), (122, _), (123, _), (124, _), (125, _), (126, _), (127, _), (128, _), (129, _), (130, _), (131, _), (132, _), (133, _)], _⟩ (_ :: _ :: _ :: _ :: _ :: _ :: _ :: _ :: _ :: _ :: _ :: ψ) rfl rfl ?_
                      refine JL_guard_yes rfl rfl ?_
                      refine JL_move rfl ?_
                      exact JL_nil (JE_stepV rfl ss0))), OblS_V (fun vals ex ψ => (by
                      refine JL_normQ ⟨176, [(113, _), (114, _), (115, _), (116, _), (117, _), (118, _), (119, _), (120, _), (121, _), (122, _), (123, _), (124, _), (125, _), (126, _), (127, _), (128, _), (129, _), (130, _), (131, _), (132, _), (133, _)], _⟩ (_ :: _ :: _ :: _ :: _ :: _ :: _ :: _ :: _ :: _ :: _ :: ψ) rfl rfl ?_
                      refine JL_guard_yes rfl rfl ?_
                      refine JL_move rfl ?_
                      exact JL_nil (JE_stepV rfl ss0))), OblS_V (fun vals ex ψ => (by
                      refine JL_normQ ⟨176, [(113, _), (114, _), (115, _), (116, _), (117, _), (118, _), (119, _), (120, _), (121, _), (122, _), (123, _), (124, _), (125, _), (126, _), (127, _), (128, _), (129, _), (130, _), (131, _), (132, _), (133, _)], _⟩ (_ :: _ :: _ :: _ :: _ :: _ :: _ :: _ :: _ :: _ :: _ :: ψ) rfl rfl ?_
                      refine JL_guard_yes rfl rfl ?_
                      refine JL_move rfl ?_
                      exact JL_nil (JE_stepV rfl ss0))), OblS_V (fun vals ex ψ => (by
                      refine JL_normQ ⟨176, [(113, _), (114, _), (115, _), (116, _), (117, _), (118, _), (119, _), (120, _), (121, _), (122, _), (123, _), (124, _), (125, _), (126, _), (127, _), (128, _), (129, _), (130, _), (131, _), (132, _), (133, _)], _⟩ (_ :: _ :: _ :: _ :: _ :: _ :: _ :: _ :: _ :: _ :: _ :: ψ) rfl rfl ?_
                      refine JL_guard_yes rfl rfl ?_
                      refine JL_idx t sl22 rfl rfl rfl (by omega) (by first | exact Reads.view (by repeat (first | with_reducible exact mm0 | refine mmS ?_))) (by rw [i64s_length]; omega) ?_
                      exact JL_nil (JE_stepV rfl ss0))), OblS_V (fun vals ex ψ => (by
                      refine JL_normQ ⟨176, [(113, _), (114, _), (115, _), (116, _), (117, _), (118, _), (119, _), (120, _), (121, _), (122, _), (123, _), (124, _), (125, _), (126, _), (127, _), (128, _), (129, _), (130, _), (131, _), (132, _), (133, _)], _⟩ (_ :: _ :: _ :: _ :: _ :: _ :: _ :: _ :: _ :: _ :: _ :: ψ) rfl rfl ?_
                      refine JL_guard_yes rfl rfl ?_
                      refine JL_loadE ty3 rfl (by first | exact Reads.view (by repeat (first | with_reducible exact mm0 | refine mmS ?_))) (i64s_get (by omega)) ?_
                      rw [show (begL V W).getD t 0 = ((bg V W t : Nat) : Int) from begL_get hz (by omega)]
                      exact JL_nil (JE_stepV rfl ss0))), OblS_V (fun vals ex ψ => (by
                      refine JL_normQ ⟨176, [(113, _), (114, _), (115, _), (116, _), (117, _), (118, _), (119, _), (120, _), (121, _), (122, _), (123, _), (124, _), (125, _), (126, _), (127, _), (128, _), (129, _), (130, _), (131, _), (132, _), (133, _)], _⟩ (_ :: _ :: _ :: _ :: _ :: _ :: _ :: _ :: _ :: _ :: _ :: ψ) rfl rfl ?_
                      refine JL_guard_yes rfl rfl ?_
                      refine JL_indexAddr (bg V W t) sl28 rfl rfl rfl (by omega) (by first | exact Reads.view (by repeat (first | with_reducible exact mm0 | refine mmS ?_))) (by rw [fcells_length]; omega) ?_
                      exact JL_nil (JE_stepV rfl ss0))), OblS_V (fun vals ex ψ => (by
                      refine JL_normQ ⟨176, [(113, _), (114, _), (115, _), (116, _), (117, _), (118, _), (119, _), (120, _), (121, _), (122, _), (123, _), (124, _), (125, _), (126, _), (127, _), (128, _), (129, _), (130, _), (131, _), (132, _), (133, _)], _⟩ (_ :: _ :: _ :: _ :: _ :: _ :: _ :: _ :: _ :: _ :: _ :: ψ) rfl rfl ?_
                      refine JL_guard_yes rfl rfl ?_
                      refine JL_loadEA (vs := [_, _, _]) ty36 (Nat.zero_lt_succ _) rfl (by first | exact Reads.view (by repeat (first | with_reducible exact mm0 | refine mmS ?_))) (fcells_getA (by omega)) ?_
                      exact JL_nil (JE_stepV rfl ss0))), OblS_V (fun vals ex ψ => (by
                      refine JL_normQ ⟨176, [(113, _), (114, _), (115, _), (116, _), (117, _), (118, _), (119, _), (120, _), (121, _), (122, _), (123, _), (124, _), (125, _), (126, _), (127, _), (128, _), (129, _), (130, _), (131, _), (132, _), (133, _)], _⟩ (_ :: _ :: _ :: _ :: _ :: _ :: _ :: _ :: _ :: _ :: _ :: ψ) rfl rfl ?_
                      refine JL_guard_yes rfl rfl ?_
                      refine JL_move rfl ?_
                      exact JL_nil (JE_stepV rfl ss0))), OblS_V (fun vals ex ψ => (by
                      refine JL_normQ ⟨176, [(113, _), (114, _), (115, _), (116, _), (117, _), (118, _), (119, _), (120, _), (121, _), (122, _), (123, _), (124, _), (125, _), (126, _), (127, _), (128, _), (129, _), (130, _), (131, _), (132, _), (133, _)], _⟩ (_ :: _ :: _ :: _ :: _ :: _ :: _ :: _ :: _ :: _ :: _ :: ψ) rfl rfl ?_
                      refine JL_guard_yes rfl rfl ?_
                      refine JL_move rfl ?_
                      exact JL_nil (JE_stepV rfl ss0))), OblS_V (fun vals ex ψ => (by
                      refine JL_normQ ⟨176, [(113, _), (114, _), (115, _), (116, _), (117, _), (118, _), (119, _), (120, _), (121, _), (122, _), (123, _), (124, _), (125, _), (126, _), (127, _), (128, _), (129, _), (130, _), (131, _), (132, _), (133, _)], _⟩ (_ :: _ :: _ :: _ :: _ :: _ :: _ :: _ :: _ :: _ :: _ :: ψ) rfl rfl ?_
                      refine JL_guard_yes rfl rfl ?_
                      refine JL_move rfl ?_
                      exact JL_nil (JE_stepV rfl ss0))), OblS_V (fun vals ex ψ => (by
                      refine JL_normQ ⟨176, [(113, _), (114, _), (115, _), (116, _), (117, _), (118, _), (119, _), (120, _), (121, _), (122, _), (123, _), (124, _), (125, _), (126, _), (127, _), (128, _), (129, _), (130, _), (131, _), (132, _), (133, _)], _⟩ (_ :: _ :: _ :: _ :: _ :: _ :: _ :: _ :: _ :: _ :: _ :: ψ) rfl rfl ?_
                      refine JL_guard_yes rfl rfl ?_
                      refine JL_idx t sl22 rfl rfl rfl (by omega) (by first | exact Reads.view (by repeat (first | with_reducible exact mm0 | refine mmS ?_))) (by rw [i64s_length]; omega) ?_
                      exact JL_nil (JE_stepV rfl ss0))), OblS_V (fun vals ex ψ => (by
                      refine JL_normQ ⟨176, [(113, _), (114, _), (115, _), (116, _), (117, _), (118, _), (119, _), (120, _), (121, _), (122, _), (123, _), (124, _), (125, _), (126, _), (127, _), (128, _), (129, _), (130, _), (131, _), (132, _), (133, _)], _⟩ (_ :: _ :: _ :: _ :: _ :: _ :: _ :: _ :: _ :: _ :: _ :: ψ) rfl rfl ?_
                      refine JL_guard_yes rfl rfl ?_
                      refine JL_loadE ty3 rfl (by first | exact Reads.view (by repeat (first | with_reducible exact mm0 | refine mmS ?_))) (i64s_get (by omega)) ?_
                      rw [show (begL V W).getD t 0 = ((bg V W t : Nat) : Int) from begL_get hz (by omega)]
                      exact JL_nil (JE_stepV rfl ss0))), OblS_V (fun vals ex ψ => (by
                      refine JL_normQ ⟨176, [(113, _), (114, _), (115, _), (116, _), (117, _), (118, _), (119, _), (120, _), (121, _), (122, _), (123, _), (124, _), (125, _), (126, _), (127, _), (128, _), (129, _), (130, _), (131, _), (132, _), (133, _)], _⟩ (_ :: _ :: _ :: _ :: _ :: _ :: _ :: _ :: _ :: _ :: _ :: ψ) rfl rfl ?_
                      refine JL_guard_yes rfl rfl ?_
                      refine JL_sub_to rfl rfl (IntWalk.i64_in _ (by omega)) ?_
                      rw [show (((bg V W t : Nat) : Int) - 1 : Int) = ((bg V W t - 1 : Nat) : Int) from by omega]
                      exact JL_nil (JE_stepV rfl ss0))), OblS_V (fun vals ex ψ => (by
                      refine JL_normQ ⟨176, [(113, _), (114, _), (115, _), (116, _), (117, _), (118, _), (119, _), (120, _), (121, _), (122, _), (123, _), (124, _), (125, _), (126, _), (127, _), (128, _), (129, _), (130, _), (131, _), (132, _), (133, _)], _⟩ (_ :: _ :: _ :: _ :: _ :: _ :: _ :: _ :: _ :: _ :: _ :: ψ) rfl rfl ?_
                      refine JL_guard_yes rfl rfl ?_
                      refine JL_indexAddr (bg V W t - 1) sl28 rfl rfl rfl (by omega) (by first | exact Reads.view (by repeat (first | with_reducible exact mm0 | refine mmS ?_))) (by rw [fcells_length]; omega) ?_
                      exact JL_nil (JE_stepV rfl ss0))), OblS_V (fun vals ex ψ => (by
                      refine JL_normQ ⟨176, [(113, _), (114, _), (115, _), (116, _), (117, _), (118, _), (119, _), (120, _), (121, _), (122, _), (123, _), (124, _), (125, _), (126, _), (127, _), (128, _), (129, _), (130, _), (131, _), (132, _), (133, _)], _⟩ (_ :: _ :: _ :: _ :: _ :: _ :: _ :: _ :: _ :: _ :: _ :: ψ) rfl rfl ?_
                      refine JL_guard_yes rfl rfl ?_
                      refine JL_loadEA (vs := [_, _, _]) ty36 (Nat.zero_lt_succ _) rfl (by first | exact Reads.view (by repeat (first | with_reducible exact mm0 | refine mmS ?_))) (fcells_getA (by omega)) ?_
                      exact JL_nil (JE_stepV rfl ss0))), trivial⟩ (by kernel_rfl) (fun vals bs => ?_)
                  refine JL_normL [_, _, _, _] ⟨176, [(113, _), (114, _), (115, _), (116, _), (117, _), (118, _), (119, _), (120, _), (121, _), (122, _), (123, _), (124, _), (125, _), (126, _), (127, _), (128, _), (129, _), (130, _), (131, _), (132, _), (133, _)], _⟩ [box _ _ [_, _, _]] [_, _, _, _, _, _, _, _, _, _, _] rfl rfl rfl rfl ?_
                  refine JL_guard_yes rfl rfl ?_
                  refine JL_callF' (Asks.cons (holds_of_mem (by repeat (first | with_reducible exact mm0 | refine mmS ?_))) (Asks.cons (holds_of_mem (by repeat (first | with_reducible exact mm0 | refine mmS ?_))) (Asks.cons (holds_of_mem (by repeat (first | with_reducible exact mm0 | refine mmS ?_))) (Asks.cons (holds_of_mem (by repeat (first | with_reducible exact mm0 | refine mmS ?_))) Asks.nil)))) (fcmpq_con (FIn.some ((fes_fqs hl34 (bg V W t)).mono (by decide))) (FIn.some ((fes_fqs hl34 (bg V W t - 1)).mono (by decide)))) rfl ca14 ⟨rfl, rfl, rfl⟩ ?_
                  rintro _ _ ⟨rfl, rfl⟩
                  refine JL_guard_yes rfl rfl ?_
                  refine JL_geq rfl rfl ?_
                  refine JL_split (fun h135 => ?_) (fun h135 => ?_)
                  · exact absurd h135 (by have hlt : cmpQ (l34.getD (bg V W t) dF).q (l34.getD (bg V W t - 1) dF).q < 0 := cmpQ_neg.2 (by rw [fes_fq hl34, fes_fq hl34]; exact hb4); omega)
                  · refine JL_guard_yes rfl rfl ?_
                    refine JL_pick_t rfl rfl ?_
                    refine JL_pick_f rfl rfl ?_
                    refine JL_done_up 176 [box _ _ [_, _, _]] [_, _, _, _, _, _, _, _, _, _, _] rfl rfl (by simp only [nrmF]; rfl) rfl rfl ?_
                    refine JC_false rfl ?_
                    refine JC_skip ?_
                    refine JE_then ?_
                    refine JC_seq ?_
                    refine JC_region ?_
                    refine JL_move rfl ?_
                    refine JL_move rfl ?_
                    refine JL_idx t sl22 rfl rfl rfl (by omega) (by first | exact Reads.view (by repeat (first | with_reducible exact mm0 | refine mmS ?_))) (by rw [i64s_length]; omega) ?_
                    refine JL_loadE ty3 rfl (by first | exact Reads.view (by repeat (first | with_reducible exact mm0 | refine mmS ?_))) (i64s_get (by omega)) ?_
                    rw [show (begL V W).getD t 0 = ((bg V W t : Nat) : Int) from begL_get hz (by omega)]
                    refine JL_assign rfl ?_
                    refine JL_done_up 176 [box _ _ [_, _, _]] [_, _, _, _, _, _, _, _, _, _, _] rfl rfl (by simp only [nrmF]; rfl) rfl rfl ?_
                    refine JC_block ?_
                    refine JC_loopS ((Nat)) (fun (i : Nat) => bg V W t ≤ i ∧ i ≤ bg V W (t + 1)) (fun (i : Nat) => bg V W (t + 1) - i) (fun u (i : Nat) => [none, none, none, none, some (u 4), none, none, none, none, none, none, none, none, some (.int .i64 (i : Nat)), some (u 14), some (u 15), none, none, none, none, none, none, none, none, none, none, none, none, none, none, none, none, none, none, none, none, none, none, none, none, none, none, none, none, none, none, none, none, none, none, none, none, none, none, none, none, none, none, none, none, none, none, none, none, none, none, none, none, none, none, none, none, none, none, none, none, none, none, none, none, none, none, none, none, none, none, none, none, none, none, none, none, none, none, none, none, none, none, none, none, none, none, none, none, none, none, none, none, none, none, none, none, none, none, none, none, none, none, none, none, none, none, none, none, none, none, none, none, none, none, none, none, none, none, none, none, none, none, none, none, none, none, some (u 142), some (u 143), some (u 144), some (u 145), some (u 146), some (u 147), some (u 148), some (u 149), some (u 150), some (u 151), some (u 152), some (u 153), some (u 154), some (u 155), some (u 156), some (u 157), some (u 158), some (u 159), some (u 160), some (u 161), some (u 162), some (u 163), some (u 164), some (u 165), some (u 166), some (u 167), some (u 168), some (u 169), some (u 170), some (u 171), some (u 172), some (u 173), some (u 174), some (u 175)]) (fun (i : Nat) => [none]) (fun (i : Nat) => []) (bg V W t) (by kernel_rfl) ?_ (by kernel_rfl) ?_ ?_
                    · exact ⟨Nat.le_refl _, Nat.le_of_lt hb1⟩
                    · exact subset_nil
                    intro u i hC
                    obtain ⟨hi0, hi⟩ := hC
                    refine JC_norm ⟨176, [], [_, _, _, _, _, _, _, _, _, _, _, _, _, _, _, _, _, _, _, _, _, _, _, _, _, _, _, _, _, _, _, _, _, _, _, _, _, _, _, _, _, _, _, _, _, _, _, _, _, _, _, _, _, _, _, _, _, _, _, _, _, _, _, _, _, _, _, _, _, _, _, _, _, _, _, _, _, _, _, _, _, _, _, _, _, _, _, _, _, _, _, _, _, _, _, _, _, _, _, _, _, _, _, _, _, _, _, _, _, _, _, _, _, _, _, _, _, _, _, _, _, _, _, _, _, _, _, _, _, _, _, _, _, _, _, _, _, _, _, _, _, _, _, _, _, _, _, _, _, _, _, _, _, _, _, _, _, _, _, _, _, _, _, _, _, _, _, _, _, _, _, _, _, _, _, _]⟩ [box _ _ [_, _, _]] [_, _, _, _, _, _, _, _, _, _, _] rfl rfl rfl ?_
                    refine JC_seq ?_
                    refine JC_seq ?_
                    refine JC_region ?_
                    refine JL_move rfl ?_
                    refine JL_move rfl ?_
                    refine JL_lss rfl rfl ?_
                    refine JL_split (fun h144 => ?_) (fun h144 => ?_)
                    · refine JL_done_up 176 [box _ _ [_, _, _]] [_, _, _, _, _, _, _, _, _, _, _] rfl rfl (by simp only [nrmF]; rfl) rfl rfl ?_
                      refine JC_true rfl ?_
                      refine JC_skip ?_
                      refine JE_then ?_
                      refine JC_seq ?_
                      refine JC_block ?_
                      refine JC_seq ?_
                      have hpe156 : poolE V W ((bg V W t : Nat) : Int) ((i + 1 : Nat) : Int) = 0 := poolE_ok hz (by omega)
                      obtain ⟨hm1, hm2⟩ := hbp i hi0 (by omega)
                      have hq1 : qs (meanq V W (bg V W t) (bg V W (t + 1))) 3 := qs_meanq hz (by omega)
                      have hq2 : qs (meanq V W (bg V W t) (i + 1)) 3 := qs_meanq hz (by omega)
                      refine JC_region ?_
                      refine JL_move rfl ?_
                      refine JL_move rfl ?_
                      refine JL_move rfl ?_
                      refine JL_move rfl ?_
                      refine JL_idx t sl22 rfl rfl rfl (by omega) (by first | exact Reads.view (by repeat (first | with_reducible exact mm0 | refine mmS ?_))) (by rw [i64s_length]; omega) ?_
                      refine JL_loadE ty3 rfl (by first | exact Reads.view (by repeat (first | with_reducible exact mm0 | refine mmS ?_))) (i64s_get (by omega)) ?_
                      rw [show (begL V W).getD t 0 = ((bg V W t : Nat) : Int) from begL_get hz (by omega)]
                      refine JL_move rfl ?_
                      refine JL_add_to rfl rfl (IntWalk.i64_in _ (by omega)) ?_
                      rw [show ((i : Int) + 1 : Int) = ((i + 1 : Nat) : Int) from by omega]
                      refine JL_callF' (Asks.cons (holds_of_mem (by repeat (first | with_reducible exact mm0 | refine mmS ?_))) (Asks.cons (holds_of_mem (by repeat (first | with_reducible exact mm0 | refine mmS ?_))) Asks.nil)) (ipool_con (by omega) (by omega) (by omega) (by omega)) rfl ca18 ⟨rfl, rfl, rfl, rfl, rfl⟩ ?_
                      rintro _ _ ⟨ad156, cp156, be156, ce156, rfl, rfl⟩
                      rw [poolO_some (hpe156), hpe156]
                      refine JL_move rfl ?_
                      refine JL_extract rfl rfl ?_
                      refine JL_extract rfl rfl ?_
                      refine JL_alloc z36 (fun b14 => ?_)
                      refine JL_store (vs := [_, _, _]) 1 ty36 rfl rfl rfl (AllOne.cons rfl (AllOne.cons rfl (AllOne.cons rfl AllOne.nil))) rfl (Nat.le_of_ble_eq_true rfl) ?_
                      refine JL_assign rfl ?_
                      refine JL_done_up 176 [box _ _ [_, _, _], box _ _ [_, _, _]] [_, _, _, _, _, _, _, _, _, _, _, _, _] rfl rfl (by simp only [nrmF]; rfl) rfl rfl ?_
                      refine JC_seq ?_
                      refine JC_fesGet (f := true) (l := l34) (l34.getD i dF) (by repeat (first | with_reducible exact mm0 | refine mmS ?_)) (getD_mem (by omega)) ?_
                      refine JC_drawT mixed 14 [spV 159 [] _, spV 160 [0] _, spV 161 [1] _, spV 162 [2] _, spV 163 [2] _, spC 164 [2, 3, 4] _, spV 165 [2, 5] _, spV 166 [2, 6] _, spV 167 [7] _, spV 168 [8] _, spV 169 [8] _, spV 170 [8, 9, 10] _, spV 171 [8, 11] _, spV 172 [8] _] ⟨OblS_V (fun vals ex ψ => (by
                          refine JL_normQ ⟨176, [(159, _), (160, _), (161, _), (162, _), (163, _), (164, _), (165, _), (166, _), (167, _), (168, _), (169, _), (170, _), (171, _), (172, _)], _⟩ (_ :: _ :: _ :: _ :: _ :: _ :: _ :: _ :: _ :: _ :: _ :: _ :: _ :: _ :: _ :: ψ) rfl rfl ?_
                          refine JL_move rfl ?_
                          exact JL_nil (JE_stepV rfl ss0))), OblS_V (fun vals ex ψ => (by
                          refine JL_normQ ⟨176, [(159, _), (160, _), (161, _), (162, _), (163, _), (164, _), (165, _), (166, _), (167, _), (168, _), (169, _), (170, _), (171, _), (172, _)], _⟩ (_ :: _ :: _ :: _ :: _ :: _ :: _ :: _ :: _ :: _ :: _ :: _ :: _ :: _ :: _ :: ψ) rfl rfl ?_
                          refine JL_neq rfl rfl ?_
                          rw [show decide ((0 : Int) ≠ 0) = false from rfl]
                          exact JL_nil (JE_stepV rfl ss0))), OblS_V (fun vals ex ψ => (by
                          refine JL_normQ ⟨176, [(159, _), (160, _), (161, _), (162, _), (163, _), (164, _), (165, _), (166, _), (167, _), (168, _), (169, _), (170, _), (171, _), (172, _)], _⟩ (_ :: _ :: _ :: _ :: _ :: _ :: _ :: _ :: _ :: _ :: _ :: _ :: _ :: _ :: _ :: ψ) rfl rfl ?_
                          refine JL_move rfl ?_
                          exact JL_nil (JE_stepV rfl ss0))), OblS_V (fun vals ex ψ => (by
                          refine JL_normQ ⟨176, [(159, _), (160, _), (161, _), (162, _), (163, _), (164, _), (165, _), (166, _), (167, _), (168, _), (169, _), (170, _), (171, _), (172, _)], _⟩ (_ :: _ :: _ :: _ :: _ :: _ :: _ :: _ :: _ :: _ :: _ :: _ :: _ :: _ :: _ :: ψ) rfl rfl ?_
                          refine JL_guard_yes rfl rfl ?_
                          refine JL_loadA (vs := [_, _, _]) 1 ty36 rfl rfl ⟨rfl, rfl, rfl, trivial⟩ ?_
                          exact JL_nil (JE_stepV rfl ss0))), OblS_V (fun vals ex ψ => (by
                          refine JL_normQ ⟨176, [(159, _), (160, _), (161, _), (162, _), (163, _), (164, _), (165, _), (166, _), (167, _), (168, _), (169, _), (170, _), (171, _), (172, _)], _⟩ (_ :: _ :: _ :: _ :: _ :: _ :: _ :: _ :: _ :: _ :: _ :: _ :: _ :: _ :: _ :: ψ) rfl rfl ?_
                          refine JL_guard_yes rfl rfl ?_
                          refine JL_loadA (vs := [_, _, _]) 0 ty36 rfl rfl ⟨rfl, rfl, rfl, trivial⟩ ?_
                          exact JL_nil (JE_stepV rfl ss0))), OblS_C (fun vals ex ψ => (by
                          refine JL_normQ ⟨176, [(159, _), (160, _), (161, _), (162, _), (163, _), (164, _), (165, _), (166, _), (167, _), (168, _), (169, _), (170, _), (171, _), (172, _)], _⟩ (_ :: _ :: _ :: _ :: _ :: _ :: _ :: _ :: _ :: _ :: _ :: _ :: _ :: _ :: _ :: ψ) rfl rfl ?_
                          refine JL_guard_yes rfl rfl ?_
                          refine JL_callF' (Asks.cons (holds_of_mem (by repeat (first | with_reducible exact mm0 | refine mmS ?_))) (Asks.cons (holds_of_mem (by repeat (first | with_reducible exact mm0 | refine mmS ?_))) (Asks.cons (holds_of_mem (by repeat (first | with_reducible exact mm0 | refine mmS ?_))) (Asks.cons (holds_of_mem (by repeat (first | with_reducible exact mm0 | refine mmS ?_))) Asks.nil)))) (fcmpq_con (FIn.some (hq2.mono (by decide))) (FIn.some (hq1.mono (by decide)))) rfl ca14 ⟨rfl, rfl, rfl⟩ ?_
                          exact fun v φo hP => JL_nil (JE_stepC φo rfl hP (fun p hp => mapB_l hp) (fun p hp => mapB_r (ss0 p hp))))), OblS_V (fun vals ex ψ => (by
                          refine JL_normQ ⟨176, [(159, _), (160, _), (161, _), (162, _), (163, _), (164, _), (165, _), (166, _), (167, _), (168, _), (169, _), (170, _), (171, _), (172, _)], _⟩ (_ :: _ :: _ :: _ :: _ :: _ :: _ :: _ :: _ :: _ :: _ :: _ :: _ :: _ :: _ :: _ :: ψ) rfl rfl ?_
                          generalize vals 5 = x164
                          refine JL_usePost mm0 (fun φo hP => ?_)
                          obtain ⟨rfl, rfl⟩ := hP
                          refine JL_norm _ _ (_ :: _ :: _ :: _ :: _ :: _ :: _ :: _ :: _ :: _ :: _ :: _ :: _ :: _ :: _ :: _ :: ψ) rfl rfl rfl ?_
                          refine JL_guard_yes rfl rfl ?_
                          refine JL_gtr rfl rfl ?_
                          rw [decide_eq_false (p := 0 < cmpQ (meanq V W (bg V W t) (i + 1)) (meanq V W (bg V W t) (bg V W (t + 1)))) (fun h => absurd (cmpQ_pos.1 h) (Rat.not_lt.2 hm1))]
                          exact JL_nil (JE_stepV rfl ss0))), OblS_V (fun vals ex ψ => (by
                          refine JL_normQ ⟨176, [(159, _), (160, _), (161, _), (162, _), (163, _), (164, _), (165, _), (166, _), (167, _), (168, _), (169, _), (170, _), (171, _), (172, _)], _⟩ (_ :: _ :: _ :: _ :: _ :: _ :: _ :: _ :: _ :: _ :: _ :: _ :: _ :: _ :: _ :: ψ) rfl rfl ?_
                          refine JL_pick_f rfl rfl ?_
                          exact JL_nil (JE_stepV rfl ss0))), OblS_V (fun vals ex ψ => (by
                          refine JL_normQ ⟨176, [(159, _), (160, _), (161, _), (162, _), (163, _), (164, _), (165, _), (166, _), (167, _), (168, _), (169, _), (170, _), (171, _), (172, _)], _⟩ (_ :: _ :: _ :: _ :: _ :: _ :: _ :: _ :: _ :: _ :: _ :: _ :: _ :: _ :: _ :: ψ) rfl rfl ?_
                          refine JL_move rfl ?_
                          exact JL_nil (JE_stepV rfl ss0))), OblS_V (fun vals ex ψ => (by
                          refine JL_normQ ⟨176, [(159, _), (160, _), (161, _), (162, _), (163, _), (164, _), (165, _), (166, _), (167, _), (168, _), (169, _), (170, _), (171, _), (172, _)], _⟩ (_ :: _ :: _ :: _ :: _ :: _ :: _ :: _ :: _ :: _ :: _ :: _ :: _ :: _ :: _ :: ψ) rfl rfl ?_
                          refine JL_guard_yes rfl rfl ?_
                          refine JL_move rfl ?_
                          exact JL_nil (JE_stepV rfl ss0))), OblS_V (fun vals ex ψ => (by
                          refine JL_normQ ⟨176, [(159, _), (160, _), (161, _), (162, _), (163, _), (164, _), (165, _), (166, _), (167, _), (168, _), (169, _), (170, _), (171, _), (172, _)], _⟩ (_ :: _ :: _ :: _ :: _ :: _ :: _ :: _ :: _ :: _ :: _ :: _ :: _ :: _ :: _ :: ψ) rfl rfl ?_
                          refine JL_guard_yes rfl rfl ?_
                          refine JL_move rfl ?_
                          exact JL_nil (JE_stepV rfl ss0))), OblS_V (fun vals ex ψ => (by
                          refine JL_normQ ⟨176, [(159, _), (160, _), (161, _), (162, _), (163, _), (164, _), (165, _), (166, _), (167, _), (168, _), (169, _), (170, _), (171, _), (172, _)], _⟩ (_ :: _ :: _ :: _ :: _ :: _ :: _ :: _ :: _ :: _ :: _ :: _ :: _ :: _ :: _ :: ψ) rfl rfl ?_
                          refine JL_guard_yes rfl rfl ?_
                          refine JL_indexAddr i sl28 rfl rfl rfl (by omega) (by first | exact Reads.view (by repeat (first | with_reducible exact mm0 | refine mmS ?_))) (by rw [fcells_length]; omega) ?_
                          exact JL_nil (JE_stepV rfl ss0))), OblS_V (fun vals ex ψ => (by
                          refine JL_normQ ⟨176, [(159, _), (160, _), (161, _), (162, _), (163, _), (164, _), (165, _), (166, _), (167, _), (168, _), (169, _), (170, _), (171, _), (172, _)], _⟩ (_ :: _ :: _ :: _ :: _ :: _ :: _ :: _ :: _ :: _ :: _ :: _ :: _ :: _ :: _ :: ψ) rfl rfl ?_
                          refine JL_guard_yes rfl rfl ?_
                          refine JL_loadEA (vs := [_, _, _]) ty36 (Nat.zero_lt_succ _) rfl (by first | exact Reads.view (by repeat (first | with_reducible exact mm0 | refine mmS ?_))) (fcells_getA (by omega)) ?_
                          exact JL_nil (JE_stepV rfl ss0))), OblS_V (fun vals ex ψ => (by
                          refine JL_normQ ⟨176, [(159, _), (160, _), (161, _), (162, _), (163, _), (164, _), (165, _), (166, _), (167, _), (168, _), (169, _), (170, _), (171, _), (172, _)], _⟩ (_ :: _ :: _ :: _ :: _ :: _ :: _ :: _ :: _ :: _ :: _ :: _ :: _ :: _ :: _ :: ψ) rfl rfl ?_
                          refine JL_guard_yes rfl rfl ?_
                          refine JL_loadA (vs := [_, _, _]) 0 ty36 rfl rfl ⟨rfl, rfl, rfl, trivial⟩ ?_
                          exact JL_nil (JE_stepV rfl ss0))), trivial⟩ (by kernel_rfl) (fun vals bs => ?_)
                      refine JL_normL [_, _, _] ⟨176, [(159, _), (160, _), (161, _), (162, _), (163, _), (164, _), (165, _), (166, _), (167, _), (168, _), (169, _), (170, _), (171, _), (172, _)], _⟩ [box _ _ [_, _, _], box _ _ [_, _, _]] [_, _, _, _, _, _, _, _, _, _, _, _, _, _, _, _] rfl rfl rfl rfl ?_
                      generalize vals (0 + 1 + 1 + 1 + 1 + 1) = x164
                      refine JL_guard_yes rfl rfl ?_
                      refine JL_callF' (Asks.cons (holds_of_mem (by repeat (first | with_reducible exact mm0 | refine mmS ?_))) (Asks.cons (holds_of_mem (by repeat (first | with_reducible exact mm0 | refine mmS ?_))) (Asks.cons (holds_of_mem (by repeat (first | with_reducible exact mm0 | refine mmS ?_))) (Asks.cons (holds_of_mem (by repeat (first | with_reducible exact mm0 | refine mmS ?_))) Asks.nil)))) (fcmpq_con (FIn.some ((fes_fqs hl34 i).mono (by decide))) (FIn.some (hq1.mono (by decide)))) rfl ca14 ⟨rfl, rfl, rfl⟩ ?_
                      rintro _ _ ⟨rfl, rfl⟩
                      refine JL_guard_yes rfl rfl ?_
                      refine JL_neq rfl rfl ?_
                      refine JL_split (fun h174 => ?_) (fun h174 => ?_)
                      · exact absurd (cmpQ_zero.2 (by rw [fes_fq hl34, hm2])) h174
                      · refine JL_pick_f rfl rfl ?_
                        refine JL_done_up 176 [box _ _ [_, _, _], box _ _ [_, _, _]] [_, _, _, _, _, _, _, _, _, _, _, _, _, _, _, _] rfl rfl (by simp only [nrmF]; rfl) rfl rfl ?_
                        refine JC_false rfl ?_
                        refine JC_skip ?_
                        refine JE_block_normal ?_
                        refine JE_then ?_
                        refine JC_region ?_
                        refine JL_move rfl ?_
                        refine JL_add_to rfl rfl (IntWalk.i64_in _ (by omega)) ?_
                        refine JL_assign rfl ?_
                        refine JL_nil_up 176 [box _ _ [_, _, _], box _ _ [_, _, _]] [_, _, _, _, _, _, _, _, _, _, _, _, _, _, _, _] rfl rfl (by simp only [nrmF]; rfl) rfl rfl ?_
                        refine JE_dropAt 1 ?_
                        refine JE_norm _ [box _ _ [_, _, _]] [_, _, _, _, _, _, _, _, _, _, _, _, _, _, _, _] rfl rfl rfl ?_
                        refine JE_nextS (i + 1) (by kernel_rfl) ?_ ?_ (by kernel_rfl) ?_
                        · exact ⟨by omega, by omega⟩
                        · first | omega | (dsimp only; omega)
                        · exact subset_app subset_nil (ssS (ssS (ssS (ssS (ssS ss0)))))
                    · refine JL_done_up 176 [box _ _ [_, _, _]] [_, _, _, _, _, _, _, _, _, _, _] rfl rfl (by simp only [nrmF]; rfl) rfl rfl ?_
                      refine JC_false rfl ?_
                      refine JC_exit ?_
                      refine JE_then_exit ?_
                      refine JE_nextS_exit ?_
                      refine JE_block_exit ?_
                      refine JE_block_normal ?_
                      refine JE_then ?_
                      refine JC_region ?_
                      refine JL_move rfl ?_
                      refine JL_add_to rfl rfl (IntWalk.i64_in _ (by omega)) ?_
                      refine JL_assign rfl ?_
                      refine JL_nil_up 176 [box _ _ [_, _, _]] [_, _, _, _, _, _, _, _, _, _, _] rfl rfl (by simp only [nrmF]; rfl) rfl rfl ?_
                      refine JE_dropAt 0 ?_
                      refine JE_norm _ [] [_, _, _, _, _, _, _, _, _, _, _] rfl rfl rfl ?_
                      refine JE_nextS (t + 1) (by kernel_rfl) ?_ ?_ (by kernel_rfl) ?_
                      · exact (by omega : t + 1 ≤ (blkL V W).length)
                      · first | omega | (dsimp only; omega)
                      · exact subset_app subset_nil (ssS (ssS (ssS (ssS (ssS (ssS ss0))))))
              · refine JL_done_up 176 [] [_, _, _, _, _] rfl rfl (by simp only [nrmF]; rfl) rfl rfl ?_
                refine JC_false rfl ?_
                refine JC_exit ?_
                refine JE_then_exit ?_
                refine JE_nextS_exit ?_
                refine JE_block_exit ?_
                refine JE_then ?_
                refine JC_seq ?_
                refine JC_region ?_
                refine JL_assign rfl ?_
                refine JL_done_up 176 [] [_, _, _, _, _] rfl rfl (by simp only [nrmF]; rfl) rfl rfl ?_
                refine JC_ret ?_
                refine JE_ret (vs := [_]) [] Tryd.results5 ⟨rfl, rfl⟩ ?_ ?_
                · exact ⟨rfl, rfl⟩
                · exact all_nil
  · refine JL_guard_yes rfl rfl ?_
    refine JL_not rfl ?_
    rw [Bool.not_false]
    refine JL_pick_f rfl rfl ?_
    refine JL_move rfl ?_
    refine JL_guard_no rfl rfl ?_
    refine JL_guard_no rfl rfl ?_
    refine JL_guard_no rfl rfl ?_
    refine JL_guard_no rfl rfl ?_
    refine JL_pick_t rfl rfl ?_
    refine JL_done_up 176 [] [_, _] rfl rfl (by simp only [nrmF]; rfl) rfl rfl ?_
    refine JC_true rfl ?_
    refine JC_seq ?_
    refine JC_region ?_
    refine JL_callF' Asks.nil (iawake_con) rfl ca9 rfl ?_
    rintro _ _ ⟨rfl, rfl⟩
    refine JL_assign rfl ?_
    refine JL_done_up 176 [] [_, _] rfl rfl (by simp only [nrmF]; rfl) rfl rfl ?_
    refine JC_ret ?_
    refine JE_then_ret ?_
    refine JE_ret (vs := [_]) [] Tryd.results5 ⟨rfl, rfl⟩ ?_ ?_
    · exact ⟨rfl, rfl⟩
    · exact all_nil

end Go.Fw.K
