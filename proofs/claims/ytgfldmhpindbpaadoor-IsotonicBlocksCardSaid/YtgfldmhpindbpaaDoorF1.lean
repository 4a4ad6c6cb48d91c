/- Walks through functions of the given program: each meets its contract. (Printed by a program of this repo.) -/
import Derived.Test.YtgfldmhpindbpaaDoorW5
import Derived.Test.YtgfldmhpindbpaaDoorFrB
import Derived.Test.YtgfldmhpindbpaaDoorProg
namespace Go.Fw.F1
open Go Go.RowKit Go.Proofs Go.Nat9 Go.Fw
attribute [local irreducible] JC JL JE
theorem ca36 : callable Tryd.prog 36 = true := by kernel_rfl
theorem ca45 : callable Tryd.prog 45 = true := by kernel_rfl
theorem ca50 : callable Tryd.prog 50 = true := by kernel_rfl
theorem ca51 : callable Tryd.prog 51 = true := by kernel_rfl
theorem ca52 : callable Tryd.prog 52 = true := by kernel_rfl
theorem it78 : intTy Tryd.prog 78 = some .u64 := by kernel_rfl
theorem st34 : stOf Tryd.prog 34 = some ([(0, 1)], [.slice none 0 0]) := by kernel_rfl
theorem st36 : stOf Tryd.prog 36 = some ([(0, 1), (1, 1), (2, 1)], [.bool false, .slice none 0 0, .slice none 0 0]) := by kernel_rfl
theorem ty34 : tyOf Tryd.prog 34 = some (true, 1) := by kernel_rfl
theorem ty36 : tyOf Tryd.prog 36 = some (true, 3) := by kernel_rfl
theorem us3 : (Tryd.prog.underlying 3).isSome = true := by kernel_rfl
theorem z34 : zeroOf Tryd.prog 34 = some [.slice none 0 0] := by kernel_rfl
theorem z36 : zeroOf Tryd.prog 36 = some [.bool false, .slice none 0 0, .slice none 0 0] := by kernel_rfl
end Go.Fw.F1
namespace Go.Fw.K
open Go Go.RowKit Go.Proofs Go.Nat9 Go.Fw Go.Fw.F1
attribute [local irreducible] JC JL JE

theorem fzero_con {ad1 : Option Addr} {n1 c1 : Nat} {L1 : List Nat} {x1 : Nat} (g1 : NIn n1 L1 x1 100000000) :
    ConF Tryd.prog 45 [.agg #[.slice ad1 n1 c1]] [vCells ad1 (u32s L1)]
      (fun v φo => v = .bool (decide (x1 = 0)) ∧ φo = []) := by
  refine ConF_of Tryd.func45 rfl 7 _ rfl rfl ?_
  intro w0
  refine JC_norm ⟨7, [], [_, _, _, _, _, _, _]⟩ [] [_] rfl rfl rfl ?_
  refine JC_seq ?_
  refine JC_region ?_
  refine JL_box rfl rfl (fun b1 => ?_)
  refine JL_assign rfl ?_
  refine JL_done_up 7 [box _ _ [_]] [_] rfl rfl (by simp only [nrmF]; rfl) rfl rfl ?_
  refine JC_seq ?_
  refine JC_region ?_
  refine JL_loadA (vs := [_]) 0 ty34 rfl rfl ⟨rfl, trivial⟩ ?_
  refine JL_build (cs := [_]) [] st34 rfl rfl ?_
  refine JL_nilView ?_
  refine JL_callF' (Asks.cons (holds_of_mem (by repeat (first | with_reducible exact mm0 | refine mmS ?_))) (Asks.cons (holds_of_mem (by repeat (first | with_reducible exact mm0 | refine mmS ?_))) Asks.nil)) (nat_cmp_con _ _ _ _ _ (g1.mono (by omega)) _ _ _ _ _ NIn.nil) rfl ca36 ⟨rfl, rfl, rfl⟩ ?_
  rintro _ _ ⟨rfl, rfl⟩
  refine JL_eql rfl rfl ?_
  refine JL_assign rfl ?_
  refine JL_done_up 7 [box _ _ [_]] [_, _] rfl rfl (by simp only [nrmF]; rfl) rfl rfl ?_
  refine JC_ret ?_
  refine JE_ret (vs := [_]) [] Tryd.results45 ⟨rfl, rfl⟩ ?_ ?_
  · exact ⟨by rw [cmpN_dec]; rfl, rfl⟩
  · exact all_nil

theorem fmag_con {n : Int} (hn : -9223372036854775808 ≤ n ∧ n ≤ 9223372036854775807) :
    ConF Tryd.prog 39 [.int .i64 n] []
      (LN n.natAbs) := by
  refine ConF_of Tryd.func39 rfl 12 _ rfl rfl ?_
  intro w0
  refine JC_norm ⟨12, [], [_, _, _, _, _, _, _, _, _, _, _, _]⟩ [] [] rfl rfl rfl ?_
  refine JC_seq ?_
  refine JC_region ?_
  refine JL_alloc z34 (fun b2 => ?_)
  refine JL_done_up 12 [box _ _ [_]] [] rfl rfl (by simp only [nrmF]; rfl) rfl rfl ?_
  refine JC_seq ?_
  refine JC_seq ?_
  refine JC_region ?_
  refine JL_move rfl ?_
  refine JL_lss rfl rfl ?_
  refine JL_split (fun h4 => ?_) (fun h4 => ?_)
  · refine JL_done_up 12 [box _ _ [_]] [] rfl rfl (by simp only [nrmF]; rfl) rfl rfl ?_
    refine JC_true rfl ?_
    refine JC_seq ?_
    refine JC_region ?_
    refine JL_move rfl ?_
    refine JL_convInt us3 it78 rfl (u64_neg1 n h4 hn.1) ?_
    refine JL_neg_to rfl (u64_neg2 n h4 hn.1) ?_
    refine JL_callF' Asks.nil (nat_of_con n.natAbs (by omega)) rfl ca50 ⟨rfl, rfl⟩ ?_
    rintro _ _ ⟨ad8, cap8, rfl, hk8, hm8, rfl⟩
    refine JL_store (vs := [_]) 0 ty34 rfl rfl rfl (AllOne.cons rfl AllOne.nil) rfl (Nat.le_of_ble_eq_true rfl) ?_
    refine JL_done_up 12 [box _ _ [_]] [_] rfl rfl (by simp only [nrmF]; rfl) rfl rfl ?_
    refine JC_ret ?_
    refine JE_then_ret ?_
    refine JE_ret (vs := [_]) [vCells ad8 (u32s (limbsOf (n.natAbs)))] Tryd.results39 ⟨RV.cell (vs := [_]) 0 ty34 rfl rfl ⟨rfl, trivial⟩, rfl⟩ ?_ ?_
    · exact ⟨ad8, cap8, rfl, hk8, hm8, rfl⟩
    · exact (all_cons (by repeat (first | with_reducible exact mm0 | refine mmS ?_)) all_nil)
  · refine JL_done_up 12 [box _ _ [_]] [] rfl rfl (by simp only [nrmF]; rfl) rfl rfl ?_
    refine JC_false rfl ?_
    refine JC_skip ?_
    refine JE_then ?_
    refine JC_seq ?_
    refine JC_region ?_
    refine JL_move rfl ?_
    refine JL_convInt us3 it78 rfl ((IntWalk.u64_in n (by omega)).trans (show n = ((n.natAbs : Nat) : Int) from by omega)) ?_
    refine JL_callF' Asks.nil (nat_of_con n.natAbs (by omega)) rfl ca50 ⟨rfl, rfl⟩ ?_
    rintro _ _ ⟨ad11, cap11, rfl, hk11, hm11, rfl⟩
    refine JL_store (vs := [_]) 0 ty34 rfl rfl rfl (AllOne.cons rfl AllOne.nil) rfl (Nat.le_of_ble_eq_true rfl) ?_
    refine JL_done_up 12 [box _ _ [_]] [_] rfl rfl (by simp only [nrmF]; rfl) rfl rfl ?_
    refine JC_ret ?_
    refine JE_ret (vs := [_]) [vCells ad11 (u32s (limbsOf (n.natAbs)))] Tryd.results39 ⟨RV.cell (vs := [_]) 0 ty34 rfl rfl ⟨rfl, trivial⟩, rfl⟩ ?_ ?_
    · exact ⟨ad11, cap11, rfl, hk11, hm11, rfl⟩
    · exact (all_cons (by repeat (first | with_reducible exact mm0 | refine mmS ?_)) all_nil)

theorem fmade_con {s : Bool} {ad1 : Option Addr} {n1 c1 : Nat} {L1 : List Nat} {x1 : Nat} (g1 : NIn n1 L1 x1 50000000) {ad2 : Option Addr} {n2 c2 : Nat} {L2 : List Nat} {x2 : Nat} (g2 : NIn n2 L2 x2 50000000) {q : Rat} (hq : mkq s x1 x2 = q) :
    ConF Tryd.prog 38 [.bool s, .agg #[.slice ad1 n1 c1], .agg #[.slice ad2 n2 c2]] [vCells ad1 (u32s L1), vCells ad2 (u32s L2)]
      (FO (some q)) := by
  have hs1 := g1.sz
  have hl1 := g1.le
  have hs2 := g2.sz
  have hl2 := g2.le
  refine ConF_of Tryd.func38 rfl 43 _ rfl rfl ?_
  intro w0
  refine JC_norm ⟨43, [], [_, _, _, _, _, _, _, _, _, _, _, _, _, _, _, _, _, _, _, _, _, _, _, _, _, _, _, _, _, _, _, _, _, _, _, _, _, _, _, _, _, _, _]⟩ [] [_, _] rfl rfl rfl ?_
  refine JC_seq ?_
  refine JC_region ?_
  refine JL_box rfl rfl (fun b4 => ?_)
  refine JL_box rfl rfl (fun b5 => ?_)
  refine JL_alloc z36 (fun b6 => ?_)
  refine JL_done_up 43 [box _ _ [_], box _ _ [_], box _ _ [_, _, _]] [_, _] rfl rfl (by simp only [nrmF]; rfl) rfl rfl ?_
  refine JC_seq ?_
  refine JC_seq ?_
  refine JC_region ?_
  refine JL_loadA (vs := [_]) 0 ty34 rfl rfl ⟨rfl, trivial⟩ ?_
  refine JL_callF' (Asks.cons (holds_of_mem (by repeat (first | with_reducible exact mm0 | refine mmS ?_))) Asks.nil) (fzero_con (g1.mono (by omega))) rfl ca45 ⟨rfl, rfl⟩ ?_
  rintro _ _ ⟨rfl, rfl⟩
  refine JL_split (fun h15 => ?_) (fun h15 => ?_)
  · refine JL_move rfl ?_
    refine JL_guard_no rfl rfl ?_
    refine JL_guard_no rfl rfl ?_
    refine JL_pick_t rfl rfl ?_
    refine JL_done_up 43 [box _ _ [_], box _ _ [_], box _ _ [_, _, _]] [_, _] rfl rfl (by simp only [nrmF]; rfl) rfl rfl ?_
    refine JC_true rfl ?_
    refine JC_seq ?_
    refine JC_region ?_
    refine JL_callF' Asks.nil (nat_of_con 1 (by omega)) rfl ca50 ⟨rfl, rfl⟩ ?_
    rintro _ _ ⟨ad20, cap20, rfl, hk20, hm20, rfl⟩
    refine JL_build (cs := [_, _, _]) [(2, [_])] st36 ⟨⟨rfl, _, rfl, rfl⟩, rfl⟩ rfl ?_
    refine JL_store (vs := [_, _, _]) 2 ty36 rfl rfl rfl (AllOne.cons rfl (AllOne.cons rfl (AllOne.cons rfl AllOne.nil))) rfl (Nat.le_of_ble_eq_true rfl) ?_
    refine JL_done_up 43 [box _ _ [_], box _ _ [_], box _ _ [_, _, _]] [_, _, _] rfl rfl (by simp only [nrmF]; rfl) rfl rfl ?_
    refine JC_ret ?_
    refine JE_then_ret ?_
    have hq0 : q = 0 := by rw [← hq]; exact some_mkq0 (by omega)
    subst hq0
    refine JE_nilView ?_
    refine JE_ret (vs := [_]) [vCells none (u32s []), vCells ad20 (u32s (limbsOf (1)))] Tryd.results38 ⟨RV.cell (vs := [_, _, _]) 2 ty36 rfl rfl ⟨rfl, rfl, rfl, trivial⟩, rfl⟩ ?_ ?_
    · exact ⟨none, 0, ad20, cap20, by rw [fneg_zero, fnum_zero, fden_zero]; rfl, by rw [fnum_zero, fden_zero]⟩
    · exact (all_cons (by repeat (first | with_reducible exact mm0 | refine mmS ?_)) (all_cons (by repeat (first | with_reducible exact mm0 | refine mmS ?_)) all_nil))
  · refine JL_move rfl ?_
    refine JL_guard_yes rfl rfl ?_
    refine JL_loadA (vs := [_]) 1 ty34 rfl rfl ⟨rfl, trivial⟩ ?_
    refine JL_guard_yes rfl rfl ?_
    refine JL_callF' (Asks.cons (holds_of_mem (by repeat (first | with_reducible exact mm0 | refine mmS ?_))) Asks.nil) (fzero_con (g2.mono (by omega))) rfl ca45 ⟨rfl, rfl⟩ ?_
    rintro _ _ ⟨rfl, rfl⟩
    refine JL_split (fun h18 => ?_) (fun h18 => ?_)
    · refine JL_pick_f rfl rfl ?_
      refine JL_done_up 43 [box _ _ [_], box _ _ [_], box _ _ [_, _, _]] [_, _] rfl rfl (by simp only [nrmF]; rfl) rfl rfl ?_
      refine JC_true rfl ?_
      refine JC_seq ?_
      refine JC_region ?_
      refine JL_callF' Asks.nil (nat_of_con 1 (by omega)) rfl ca50 ⟨rfl, rfl⟩ ?_
      rintro _ _ ⟨ad20, cap20, rfl, hk20, hm20, rfl⟩
      refine JL_build (cs := [_, _, _]) [(2, [_])] st36 ⟨⟨rfl, _, rfl, rfl⟩, rfl⟩ rfl ?_
      refine JL_store (vs := [_, _, _]) 2 ty36 rfl rfl rfl (AllOne.cons rfl (AllOne.cons rfl (AllOne.cons rfl AllOne.nil))) rfl (Nat.le_of_ble_eq_true rfl) ?_
      refine JL_done_up 43 [box _ _ [_], box _ _ [_], box _ _ [_, _, _]] [_, _, _] rfl rfl (by simp only [nrmF]; rfl) rfl rfl ?_
      refine JC_ret ?_
      refine JE_then_ret ?_
      have hq0 : q = 0 := by rw [← hq]; exact some_mkq0 (by omega)
      subst hq0
      refine JE_nilView ?_
      refine JE_ret (vs := [_]) [vCells none (u32s []), vCells ad20 (u32s (limbsOf (1)))] Tryd.results38 ⟨RV.cell (vs := [_, _, _]) 2 ty36 rfl rfl ⟨rfl, rfl, rfl, trivial⟩, rfl⟩ ?_ ?_
      · exact ⟨none, 0, ad20, cap20, by rw [fneg_zero, fnum_zero, fden_zero]; rfl, by rw [fnum_zero, fden_zero]⟩
      · exact (all_cons (by repeat (first | with_reducible exact mm0 | refine mmS ?_)) (all_cons (by repeat (first | with_reducible exact mm0 | refine mmS ?_)) all_nil))
    · refine JL_pick_f rfl rfl ?_
      refine JL_done_up 43 [box _ _ [_], box _ _ [_], box _ _ [_, _, _]] [_, _] rfl rfl (by simp only [nrmF]; rfl) rfl rfl ?_
      refine JC_false rfl ?_
      refine JC_skip ?_
      refine JE_then ?_
      refine JC_seq ?_
      refine JC_region ?_
      refine JL_loadA (vs := [_]) 0 ty34 rfl rfl ⟨rfl, trivial⟩ ?_
      refine JL_loadA (vs := [_]) 1 ty34 rfl rfl ⟨rfl, trivial⟩ ?_
      have hx : 0 < x1 := by omega
      have hy : 0 < x2 := by omega
      have hgp : 0 < Nat.gcd x1 x2 := Nat.gcd_pos_of_pos_left _ hx
      have hgl := len_limbsOf_le (Nat.gcd_le_left x2 hx)
      have hM := some_mkq (s := s) hx hy
      rw [hq] at hM
      refine JL_callF' (Asks.cons (holds_of_mem (by repeat (first | with_reducible exact mm0 | refine mmS ?_))) (Asks.cons (holds_of_mem (by repeat (first | with_reducible exact mm0 | refine mmS ?_))) Asks.nil)) (nat_gcd_con _ _ _ _ _ (g1.mono (by omega)) _ _ _ _ _ (g2.mono (by omega))) rfl ca51 ⟨rfl, rfl, rfl⟩ ?_
      rintro _ _ ⟨ad24, cap24, rfl, hk24, hm24, rfl⟩
      refine JL_alloc z34 (fun b7 => ?_)
      refine JL_store (vs := [_]) 3 ty34 rfl rfl rfl (AllOne.cons rfl AllOne.nil) rfl (Nat.le_of_ble_eq_true rfl) ?_
      refine JL_done_up 43 [box _ _ [_], box _ _ [_], box _ _ [_, _, _], box _ _ [_]] [_, _, _] rfl rfl (by simp only [nrmF]; rfl) rfl rfl ?_
      refine JC_seq ?_
      refine JC_region ?_
      refine JL_loadA (vs := [_]) 0 ty34 rfl rfl ⟨rfl, trivial⟩ ?_
      refine JL_loadA (vs := [_]) 3 ty34 rfl rfl ⟨rfl, trivial⟩ ?_
      refine JL_callF' (Asks.cons (holds_of_mem (by repeat (first | with_reducible exact mm0 | refine mmS ?_))) (Asks.cons (holds_of_mem (by repeat (first | with_reducible exact mm0 | refine mmS ?_))) Asks.nil)) (nat_divmod_con _ _ _ _ _ (g1.mono (by omega)) _ _ _ _ _ (NIn.of (by omega)) hgp) rfl ca52 ⟨rfl, rfl, rfl⟩ ?_
      rintro _ _ ⟨ad28, cap28, ae28, caq28, rfl, hk28, hm28, hkq28, hmq28, rfl⟩
      refine JL_move rfl ?_
      refine JL_extract rfl rfl ?_
      refine JL_extract rfl rfl ?_
      refine JL_extract rfl rfl ?_
      refine JL_alloc z34 (fun b8 => ?_)
      refine JL_alloc z34 (fun b9 => ?_)
      refine JL_store (vs := [_]) 4 ty34 rfl rfl rfl (AllOne.cons rfl AllOne.nil) rfl (Nat.le_of_ble_eq_true rfl) ?_
      refine JL_store (vs := [_]) 5 ty34 rfl rfl rfl (AllOne.cons rfl AllOne.nil) rfl (Nat.le_of_ble_eq_true rfl) ?_
      refine JL_assign rfl ?_
      refine JL_done_up 43 [box _ _ [_], box _ _ [_], box _ _ [_, _, _], box _ _ [_], box _ _ [_], box _ _ [_]] [_, _, _, _, _] rfl rfl (by simp only [nrmF]; rfl) rfl rfl ?_
      refine JC_seq ?_
      refine JC_region ?_
      refine JL_loadA (vs := [_]) 1 ty34 rfl rfl ⟨rfl, trivial⟩ ?_
      refine JL_loadA (vs := [_]) 3 ty34 rfl rfl ⟨rfl, trivial⟩ ?_
      refine JL_callF' (Asks.cons (holds_of_mem (by repeat (first | with_reducible exact mm0 | refine mmS ?_))) (Asks.cons (holds_of_mem (by repeat (first | with_reducible exact mm0 | refine mmS ?_))) Asks.nil)) (nat_divmod_con _ _ _ _ _ (g2.mono (by omega)) _ _ _ _ _ (NIn.of (by omega)) hgp) rfl ca52 ⟨rfl, rfl, rfl⟩ ?_
      rintro _ _ ⟨ad35, cap35, ae35, caq35, rfl, hk35, hm35, hkq35, hmq35, rfl⟩
      refine JL_move rfl ?_
      refine JL_extract rfl rfl ?_
      refine JL_extract rfl rfl ?_
      refine JL_extract rfl rfl ?_
      refine JL_alloc z34 (fun b11 => ?_)
      refine JL_alloc z34 (fun b12 => ?_)
      refine JL_store (vs := [_]) 6 ty34 rfl rfl rfl (AllOne.cons rfl AllOne.nil) rfl (Nat.le_of_ble_eq_true rfl) ?_
      refine JL_store (vs := [_]) 7 ty34 rfl rfl rfl (AllOne.cons rfl AllOne.nil) rfl (Nat.le_of_ble_eq_true rfl) ?_
      refine JL_assign rfl ?_
      refine JL_done_up 43 [box _ _ [_], box _ _ [_], box _ _ [_, _, _], box _ _ [_], box _ _ [_], box _ _ [_], box _ _ [_], box _ _ [_]] [_, _, _, _, _, _, _] rfl rfl (by simp only [nrmF]; rfl) rfl rfl ?_
      refine JC_seq ?_
      refine JC_region ?_
      refine JL_move rfl ?_
      refine JL_loadA (vs := [_]) 4 ty34 rfl rfl ⟨rfl, trivial⟩ ?_
      refine JL_loadA (vs := [_]) 6 ty34 rfl rfl ⟨rfl, trivial⟩ ?_
      refine JL_build (cs := [_, _, _]) [(0, [_]), (1, [_]), (2, [_])] st36 ⟨⟨rfl, _, rfl, rfl⟩, ⟨rfl, _, rfl, rfl⟩, ⟨rfl, _, rfl, rfl⟩, rfl⟩ rfl ?_
      refine JL_store (vs := [_, _, _]) 2 ty36 rfl rfl rfl (AllOne.cons rfl (AllOne.cons rfl (AllOne.cons rfl AllOne.nil))) rfl (Nat.le_of_ble_eq_true rfl) ?_
      refine JL_done_up 43 [box _ _ [_], box _ _ [_], box _ _ [_, _, _], box _ _ [_], box _ _ [_], box _ _ [_], box _ _ [_], box _ _ [_]] [_, _, _, _, _, _, _] rfl rfl (by simp only [nrmF]; rfl) rfl rfl ?_
      refine JC_ret ?_
      refine JE_ret (vs := [_]) [vCells ad28 (u32s (limbsOf (x1 / Nat.gcd x1 x2))), vCells ad35 (u32s (limbsOf (x2 / Nat.gcd x1 x2)))] Tryd.results38 ⟨RV.cell (vs := [_, _, _]) 2 ty36 rfl rfl ⟨rfl, rfl, rfl, trivial⟩, rfl⟩ ?_ ?_
      · exact ⟨ad28, cap28, ad35, cap35, by rw [hM.1, hM.2.1, hM.2.2]; rfl, by rw [hM.2.1, hM.2.2]⟩
      · exact (all_cons (by repeat (first | with_reducible exact mm0 | refine mmS ?_)) (all_cons (by repeat (first | with_reducible exact mm0 | refine mmS ?_)) all_nil))

end Go.Fw.K
