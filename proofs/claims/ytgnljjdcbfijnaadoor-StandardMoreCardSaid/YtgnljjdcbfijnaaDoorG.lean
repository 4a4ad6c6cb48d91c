/- Walks through functions of the given program: each meets its contract. (Printed by a program of this repo.) -/
import Derived.Test.YtgnljjdcbfijnaaDoorV
import Derived.Test.YtgnljjdcbfijnaaDoorFwC
import Derived.Test.YtgnljjdcbfijnaaDoorProg
namespace Go.Fw.G
open Go Go.RowKit Go.Proofs Go.Nat9 Go.Fw
attribute [local irreducible] JC JL JE
theorem ca55 : callable Tryd.prog 55 = true := by kernel_rfl
theorem ca56 : callable Tryd.prog 56 = true := by kernel_rfl
theorem ca57 : callable Tryd.prog 57 = true := by kernel_rfl
theorem ca58 : callable Tryd.prog 58 = true := by kernel_rfl
theorem ca76 : callable Tryd.prog 76 = true := by kernel_rfl
theorem ca77 : callable Tryd.prog 77 = true := by kernel_rfl
theorem ca78 : callable Tryd.prog 78 = true := by kernel_rfl
theorem ca79 : callable Tryd.prog 79 = true := by kernel_rfl
theorem ca80 : callable Tryd.prog 80 = true := by kernel_rfl
theorem ca81 : callable Tryd.prog 81 = true := by kernel_rfl
theorem ca82 : callable Tryd.prog 82 = true := by kernel_rfl
theorem ca83 : callable Tryd.prog 83 = true := by kernel_rfl
theorem ca94 : callable Tryd.prog 94 = true := by kernel_rfl
theorem ca96 : callable Tryd.prog 96 = true := by kernel_rfl
theorem ca97 : callable Tryd.prog 97 = true := by kernel_rfl
theorem ca98 : callable Tryd.prog 98 = true := by kernel_rfl
theorem fo35_0 : fOf Tryd.prog 35 0 = some 0 := by kernel_rfl
theorem fo35_1 : fOf Tryd.prog 35 1 = some 1 := by kernel_rfl
theorem fo35_2 : fOf Tryd.prog 35 2 = some 2 := by kernel_rfl
theorem it87 : intTy Tryd.prog 87 = some .u64 := by kernel_rfl
theorem mixed : Tryd.prog.follows .mixedOrders = true := by kernel_rfl
theorem st33 : stOf Tryd.prog 33 = some ([(0, 1)], [.slice none 0 0]) := by kernel_rfl
theorem st35 : stOf Tryd.prog 35 = some ([(0, 1), (1, 1), (2, 1)], [.bool false, .slice none 0 0, .slice none 0 0]) := by kernel_rfl
theorem ty33 : tyOf Tryd.prog 33 = some (true, 1) := by kernel_rfl
theorem ty35 : tyOf Tryd.prog 35 = some (true, 3) := by kernel_rfl
theorem ty4 : tyOf Tryd.prog 4 = some (false, 1) := by kernel_rfl
theorem ub4 : Tryd.prog.underlying 4 = some .bool := by kernel_rfl
theorem us3 : (Tryd.prog.underlying 3).isSome = true := by kernel_rfl
theorem z33 : zeroOf Tryd.prog 33 = some [.slice none 0 0] := by kernel_rfl
theorem z35 : zeroOf Tryd.prog 35 = some [.bool false, .slice none 0 0, .slice none 0 0] := by kernel_rfl
end Go.Fw.G
namespace Go.Fw.K
open Go Go.RowKit Go.Proofs Go.Nat9 Go.Fw Go.Fw.G
attribute [local irreducible] JC JL JE

theorem rzero_con {ad1 : Option Addr} {n1 c1 : Nat} {L1 : List Nat} {x1 : Nat} (g1 : NIn n1 L1 x1 100000000) :
    ConF Tryd.prog 76 [.agg #[.slice ad1 n1 c1]] [vCells ad1 (u32s L1)]
      (fun v φo => v = .bool (decide (x1 = 0)) ∧ φo = []) := by
  refine ConF_of Tryd.func76 rfl 7 _ rfl rfl ?_
  intro w0
  refine JC_norm ⟨7, [], [_, _, _, _, _, _, _]⟩ [] [_] rfl rfl rfl ?_
  refine JC_seq ?_
  refine JC_region ?_
  refine JL_box rfl rfl (fun b1 => ?_)
  refine JL_assign rfl ?_
  refine JL_done_up 7 [box _ _ [_]] [_] rfl rfl (by simp only [nrmF]; rfl) rfl rfl ?_
  refine JC_seq ?_
  refine JC_region ?_
  refine JL_loadA (vs := [_]) 0 ty33 rfl rfl ⟨rfl, trivial⟩ ?_
  refine JL_build (cs := [_]) [] st33 rfl rfl ?_
  refine JL_nilView ?_
  refine JL_callF' (Asks.cons (holds_of_mem (by repeat (first | with_reducible exact mm0 | refine mmS ?_))) (Asks.cons (holds_of_mem (by repeat (first | with_reducible exact mm0 | refine mmS ?_))) Asks.nil)) (rcmp_con _ _ _ _ _ (g1.mono (by omega)) _ _ _ _ _ NIn.nil) rfl ca94 ⟨rfl, rfl, rfl⟩ ?_
  rintro _ _ ⟨rfl, rfl⟩
  refine JL_eql rfl rfl ?_
  refine JL_assign rfl ?_
  refine JL_done_up 7 [box _ _ [_]] [_, _] rfl rfl (by simp only [nrmF]; rfl) rfl rfl ?_
  refine JC_ret ?_
  refine JE_ret (vs := [_]) [] Tryd.results76 ⟨rfl, rfl⟩ ?_ ?_
  · exact ⟨by rw [cmpN_dec]; rfl, rfl⟩
  · exact all_nil

theorem rofn_con (n : Nat) (hn : n < 9223372036854775808) :
    ConF Tryd.prog 77 [.int .i64 (n : Nat)] []
      (LN n) := by
  refine ConF_of Tryd.func77 rfl 6 _ rfl rfl ?_
  intro w0
  refine JC_norm ⟨6, [], [_, _, _, _, _, _]⟩ [] [] rfl rfl rfl ?_
  refine JC_seq ?_
  refine JC_region ?_
  refine JL_alloc z33 (fun b2 => ?_)
  refine JL_done_up 6 [box _ _ [_]] [] rfl rfl (by simp only [nrmF]; rfl) rfl rfl ?_
  refine JC_seq ?_
  refine JC_region ?_
  refine JL_move rfl ?_
  refine JL_convInt us3 it87 rfl (IntWalk.u64_in _ (by omega)) ?_
  refine JL_callF' Asks.nil (rof_con n (by omega)) rfl ca80 ⟨rfl, rfl⟩ ?_
  rintro _ _ ⟨ad5, cap5, rfl, hk5, hm5, rfl⟩
  refine JL_store (vs := [_]) 0 ty33 rfl rfl rfl (AllOne.cons rfl AllOne.nil) rfl (Nat.le_of_ble_eq_true rfl) ?_
  refine JL_done_up 6 [box _ _ [_]] [_] rfl rfl (by simp only [nrmF]; rfl) rfl rfl ?_
  refine JC_ret ?_
  refine JE_ret (vs := [_]) [vCells ad5 (u32s (limbsOf (n)))] Tryd.results77 ⟨RV.cell (vs := [_]) 0 ty33 rfl rfl ⟨rfl, trivial⟩, rfl⟩ ?_ ?_
  · exact ⟨ad5, cap5, rfl, hk5, hm5, rfl⟩
  · exact (all_cons (by repeat (first | with_reducible exact mm0 | refine mmS ?_)) all_nil)

theorem rmag_con {n : Int} (hn : -9223372036854775808 ≤ n ∧ n ≤ 9223372036854775807) :
    ConF Tryd.prog 56 [.int .i64 n] []
      (LN n.natAbs) := by
  refine ConF_of Tryd.func56 rfl 12 _ rfl rfl ?_
  intro w0
  refine JC_norm ⟨12, [], [_, _, _, _, _, _, _, _, _, _, _, _]⟩ [] [] rfl rfl rfl ?_
  refine JC_seq ?_
  refine JC_region ?_
  refine JL_alloc z33 (fun b2 => ?_)
  refine JL_done_up 12 [box _ _ [_]] [] rfl rfl (by simp only [nrmF]; rfl) rfl rfl ?_
  refine JC_seq ?_
  refine JC_seq ?_
  refine JC_region ?_
  refine JL_move rfl ?_
  refine JL_lss rfl rfl ?_
  refine JL_split (fun h4 => ?_) (fun h4 => ?_)
  · refine JL_done_up 12 [box _ _ [_]] [] rfl rfl (by simp only [nrmF]; rfl) rfl rfl ?_
    refine JC_true rfl ?_
    refine JC_seq ?_
    refine JC_region ?_
    refine JL_move rfl ?_
    refine JL_convInt us3 it87 rfl (u64_neg1 n h4 hn.1) ?_
    refine JL_neg_to rfl (u64_neg2 n h4 hn.1) ?_
    refine JL_callF' Asks.nil (rof_con n.natAbs (by omega)) rfl ca80 ⟨rfl, rfl⟩ ?_
    rintro _ _ ⟨ad8, cap8, rfl, hk8, hm8, rfl⟩
    refine JL_store (vs := [_]) 0 ty33 rfl rfl rfl (AllOne.cons rfl AllOne.nil) rfl (Nat.le_of_ble_eq_true rfl) ?_
    refine JL_done_up 12 [box _ _ [_]] [_] rfl rfl (by simp only [nrmF]; rfl) rfl rfl ?_
    refine JC_ret ?_
    refine JE_then_ret ?_
    refine JE_ret (vs := [_]) [vCells ad8 (u32s (limbsOf (n.natAbs)))] Tryd.results56 ⟨RV.cell (vs := [_]) 0 ty33 rfl rfl ⟨rfl, trivial⟩, rfl⟩ ?_ ?_
    · exact ⟨ad8, cap8, rfl, hk8, hm8, rfl⟩
    · exact (all_cons (by repeat (first | with_reducible exact mm0 | refine mmS ?_)) all_nil)
  · refine JL_done_up 12 [box _ _ [_]] [] rfl rfl (by simp only [nrmF]; rfl) rfl rfl ?_
    refine JC_false rfl ?_
    refine JC_skip ?_
    refine JE_then ?_
    refine JC_seq ?_
    refine JC_region ?_
    refine JL_move rfl ?_
    refine JL_convInt us3 it87 rfl ((IntWalk.u64_in n (by omega)).trans (show n = ((n.natAbs : Nat) : Int) from by omega)) ?_
    refine JL_callF' Asks.nil (rof_con n.natAbs (by omega)) rfl ca80 ⟨rfl, rfl⟩ ?_
    rintro _ _ ⟨ad11, cap11, rfl, hk11, hm11, rfl⟩
    refine JL_store (vs := [_]) 0 ty33 rfl rfl rfl (AllOne.cons rfl AllOne.nil) rfl (Nat.le_of_ble_eq_true rfl) ?_
    refine JL_done_up 12 [box _ _ [_]] [_] rfl rfl (by simp only [nrmF]; rfl) rfl rfl ?_
    refine JC_ret ?_
    refine JE_ret (vs := [_]) [vCells ad11 (u32s (limbsOf (n.natAbs)))] Tryd.results56 ⟨RV.cell (vs := [_]) 0 ty33 rfl rfl ⟨rfl, trivial⟩, rfl⟩ ?_ ?_
    · exact ⟨ad11, cap11, rfl, hk11, hm11, rfl⟩
    · exact (all_cons (by repeat (first | with_reducible exact mm0 | refine mmS ?_)) all_nil)

theorem rmade_con {s : Bool} {ad1 : Option Addr} {n1 c1 : Nat} {L1 : List Nat} {x1 : Nat} (g1 : NIn n1 L1 x1 50000000) {ad2 : Option Addr} {n2 c2 : Nat} {L2 : List Nat} {x2 : Nat} (g2 : NIn n2 L2 x2 50000000) {q : Rat} (hq : mkq s x1 x2 = q) :
    ConF Tryd.prog 55 [.bool s, .agg #[.slice ad1 n1 c1], .agg #[.slice ad2 n2 c2]] [vCells ad1 (u32s L1), vCells ad2 (u32s L2)]
      (FO (some q)) := by
  have hs1 := g1.sz
  have hl1 := g1.le
  have hs2 := g2.sz
  have hl2 := g2.le
  refine ConF_of Tryd.func55 rfl 43 _ rfl rfl ?_
  intro w0
  refine JC_norm ⟨43, [], [_, _, _, _, _, _, _, _, _, _, _, _, _, _, _, _, _, _, _, _, _, _, _, _, _, _, _, _, _, _, _, _, _, _, _, _, _, _, _, _, _, _, _]⟩ [] [_, _] rfl rfl rfl ?_
  refine JC_seq ?_
  refine JC_region ?_
  refine JL_box rfl rfl (fun b4 => ?_)
  refine JL_box rfl rfl (fun b5 => ?_)
  refine JL_alloc z35 (fun b6 => ?_)
  refine JL_done_up 43 [box _ _ [_], box _ _ [_], box _ _ [_, _, _]] [_, _] rfl rfl (by simp only [nrmF]; rfl) rfl rfl ?_
  refine JC_seq ?_
  refine JC_seq ?_
  refine JC_region ?_
  refine JL_loadA (vs := [_]) 0 ty33 rfl rfl ⟨rfl, trivial⟩ ?_
  refine JL_callF' (Asks.cons (holds_of_mem (by repeat (first | with_reducible exact mm0 | refine mmS ?_))) Asks.nil) (rzero_con (g1.mono (by omega))) rfl ca76 ⟨rfl, rfl⟩ ?_
  rintro _ _ ⟨rfl, rfl⟩
  refine JL_split (fun h15 => ?_) (fun h15 => ?_)
  · refine JL_move rfl ?_
    refine JL_guard_no rfl rfl ?_
    refine JL_guard_no rfl rfl ?_
    refine JL_pick_t rfl rfl ?_
    refine JL_done_up 43 [box _ _ [_], box _ _ [_], box _ _ [_, _, _]] [_, _] rfl rfl (by simp only [nrmF]; rfl) rfl rfl ?_
    refine JC_true rfl ?_
    refine JC_seq ?_
    refine JC_region ?_
    refine JL_callF' Asks.nil (rofn_con 1 (by omega)) rfl ca77 ⟨rfl, rfl⟩ ?_
    rintro _ _ ⟨ad20, cap20, rfl, hk20, hm20, rfl⟩
    refine JL_build (cs := [_, _, _]) [(2, [_])] st35 ⟨⟨rfl, _, rfl, rfl⟩, rfl⟩ rfl ?_
    refine JL_store (vs := [_, _, _]) 2 ty35 rfl rfl rfl (AllOne.cons rfl (AllOne.cons rfl (AllOne.cons rfl AllOne.nil))) rfl (Nat.le_of_ble_eq_true rfl) ?_
    refine JL_done_up 43 [box _ _ [_], box _ _ [_], box _ _ [_, _, _]] [_, _, _] rfl rfl (by simp only [nrmF]; rfl) rfl rfl ?_
    refine JC_ret ?_
    refine JE_then_ret ?_
    have hq0 : q = 0 := by rw [← hq]; exact some_mkq0 (by omega)
    subst hq0
    refine JE_nilView ?_
    refine JE_ret (vs := [_]) [vCells none (u32s []), vCells ad20 (u32s (limbsOf (1)))] Tryd.results55 ⟨RV.cell (vs := [_, _, _]) 2 ty35 rfl rfl ⟨rfl, rfl, rfl, trivial⟩, rfl⟩ ?_ ?_
    · exact ⟨none, 0, ad20, cap20, by rw [fneg_zero, fnum_zero, fden_zero]; rfl, by rw [fnum_zero, fden_zero]⟩
    · exact (all_cons (by repeat (first | with_reducible exact mm0 | refine mmS ?_)) (all_cons (by repeat (first | with_reducible exact mm0 | refine mmS ?_)) all_nil))
  · refine JL_move rfl ?_
    refine JL_guard_yes rfl rfl ?_
    refine JL_loadA (vs := [_]) 1 ty33 rfl rfl ⟨rfl, trivial⟩ ?_
    refine JL_guard_yes rfl rfl ?_
    refine JL_callF' (Asks.cons (holds_of_mem (by repeat (first | with_reducible exact mm0 | refine mmS ?_))) Asks.nil) (rzero_con (g2.mono (by omega))) rfl ca76 ⟨rfl, rfl⟩ ?_
    rintro _ _ ⟨rfl, rfl⟩
    refine JL_split (fun h18 => ?_) (fun h18 => ?_)
    · refine JL_pick_f rfl rfl ?_
      refine JL_done_up 43 [box _ _ [_], box _ _ [_], box _ _ [_, _, _]] [_, _] rfl rfl (by simp only [nrmF]; rfl) rfl rfl ?_
      refine JC_true rfl ?_
      refine JC_seq ?_
      refine JC_region ?_
      refine JL_callF' Asks.nil (rofn_con 1 (by omega)) rfl ca77 ⟨rfl, rfl⟩ ?_
      rintro _ _ ⟨ad20, cap20, rfl, hk20, hm20, rfl⟩
      refine JL_build (cs := [_, _, _]) [(2, [_])] st35 ⟨⟨rfl, _, rfl, rfl⟩, rfl⟩ rfl ?_
      refine JL_store (vs := [_, _, _]) 2 ty35 rfl rfl rfl (AllOne.cons rfl (AllOne.cons rfl (AllOne.cons rfl AllOne.nil))) rfl (Nat.le_of_ble_eq_true rfl) ?_
      refine JL_done_up 43 [box _ _ [_], box _ _ [_], box _ _ [_, _, _]] [_, _, _] rfl rfl (by simp only [nrmF]; rfl) rfl rfl ?_
      refine JC_ret ?_
      refine JE_then_ret ?_
      have hq0 : q = 0 := by rw [← hq]; exact some_mkq0 (by omega)
      subst hq0
      refine JE_nilView ?_
      refine JE_ret (vs := [_]) [vCells none (u32s []), vCells ad20 (u32s (limbsOf (1)))] Tryd.results55 ⟨RV.cell (vs := [_, _, _]) 2 ty35 rfl rfl ⟨rfl, rfl, rfl, trivial⟩, rfl⟩ ?_ ?_
      · exact ⟨none, 0, ad20, cap20, by rw [fneg_zero, fnum_zero, fden_zero]; rfl, by rw [fnum_zero, fden_zero]⟩
      · exact (all_cons (by repeat (first | with_reducible exact mm0 | refine mmS ?_)) (all_cons (by repeat (first | with_reducible exact mm0 | refine mmS ?_)) all_nil))
    · refine JL_pick_f rfl rfl ?_
      refine JL_done_up 43 [box _ _ [_], box _ _ [_], box _ _ [_, _, _]] [_, _] rfl rfl (by simp only [nrmF]; rfl) rfl rfl ?_
      refine JC_false rfl ?_
      refine JC_skip ?_
      refine JE_then ?_
      refine JC_seq ?_
      refine JC_region ?_
      refine JL_loadA (vs := [_]) 0 ty33 rfl rfl ⟨rfl, trivial⟩ ?_
      refine JL_loadA (vs := [_]) 1 ty33 rfl rfl ⟨rfl, trivial⟩ ?_
      have hx : 0 < x1 := by omega
      have hy : 0 < x2 := by omega
      have hgp : 0 < Nat.gcd x1 x2 := Nat.gcd_pos_of_pos_left _ hx
      have hgl := len_limbsOf_le (Nat.gcd_le_left x2 hx)
      have hM := some_mkq (s := s) hx hy
      rw [hq] at hM
      refine JL_callF' (Asks.cons (holds_of_mem (by repeat (first | with_reducible exact mm0 | refine mmS ?_))) (Asks.cons (holds_of_mem (by repeat (first | with_reducible exact mm0 | refine mmS ?_))) Asks.nil)) (rgcd_con _ _ _ _ _ (g1.mono (by omega)) _ _ _ _ _ (g2.mono (by omega))) rfl ca78 ⟨rfl, rfl, rfl⟩ ?_
      rintro _ _ ⟨ad24, cap24, rfl, hk24, hm24, rfl⟩
      refine JL_alloc z33 (fun b7 => ?_)
      refine JL_store (vs := [_]) 3 ty33 rfl rfl rfl (AllOne.cons rfl AllOne.nil) rfl (Nat.le_of_ble_eq_true rfl) ?_
      refine JL_done_up 43 [box _ _ [_], box _ _ [_], box _ _ [_, _, _], box _ _ [_]] [_, _, _] rfl rfl (by simp only [nrmF]; rfl) rfl rfl ?_
      refine JC_seq ?_
      refine JC_region ?_
      refine JL_loadA (vs := [_]) 0 ty33 rfl rfl ⟨rfl, trivial⟩ ?_
      refine JL_loadA (vs := [_]) 3 ty33 rfl rfl ⟨rfl, trivial⟩ ?_
      refine JL_callF' (Asks.cons (holds_of_mem (by repeat (first | with_reducible exact mm0 | refine mmS ?_))) (Asks.cons (holds_of_mem (by repeat (first | with_reducible exact mm0 | refine mmS ?_))) Asks.nil)) (rdivmod_con _ _ _ _ _ (g1.mono (by omega)) _ _ _ _ _ (NIn.of (by omega)) hgp) rfl ca79 ⟨rfl, rfl, rfl⟩ ?_
      rintro _ _ ⟨ad28, cap28, ae28, caq28, rfl, hk28, hm28, hkq28, hmq28, rfl⟩
      refine JL_move rfl ?_
      refine JL_extract rfl rfl ?_
      refine JL_extract rfl rfl ?_
      refine JL_extract rfl rfl ?_
      refine JL_alloc z33 (fun b8 => ?_)
      refine JL_alloc z33 (fun b9 => ?_)
      refine JL_store (vs := [_]) 4 ty33 rfl rfl rfl (AllOne.cons rfl AllOne.nil) rfl (Nat.le_of_ble_eq_true rfl) ?_
      refine JL_store (vs := [_]) 5 ty33 rfl rfl rfl (AllOne.cons rfl AllOne.nil) rfl (Nat.le_of_ble_eq_true rfl) ?_
      refine JL_assign rfl ?_
      refine JL_done_up 43 [box _ _ [_], box _ _ [_], box _ _ [_, _, _], box _ _ [_], box _ _ [_], box _ _ [_]] [_, _, _, _, _] rfl rfl (by simp only [nrmF]; rfl) rfl rfl ?_
      refine JC_seq ?_
      refine JC_region ?_
      refine JL_loadA (vs := [_]) 1 ty33 rfl rfl ⟨rfl, trivial⟩ ?_
      refine JL_loadA (vs := [_]) 3 ty33 rfl rfl ⟨rfl, trivial⟩ ?_
      refine JL_callF' (Asks.cons (holds_of_mem (by repeat (first | with_reducible exact mm0 | refine mmS ?_))) (Asks.cons (holds_of_mem (by repeat (first | with_reducible exact mm0 | refine mmS ?_))) Asks.nil)) (rdivmod_con _ _ _ _ _ (g2.mono (by omega)) _ _ _ _ _ (NIn.of (by omega)) hgp) rfl ca79 ⟨rfl, rfl, rfl⟩ ?_
      rintro _ _ ⟨ad35, cap35, ae35, caq35, rfl, hk35, hm35, hkq35, hmq35, rfl⟩
      refine JL_move rfl ?_
      refine JL_extract rfl rfl ?_
      refine JL_extract rfl rfl ?_
      refine JL_extract rfl rfl ?_
      refine JL_alloc z33 (fun b11 => ?_)
      refine JL_alloc z33 (fun b12 => ?_)
      refine JL_store (vs := [_]) 6 ty33 rfl rfl rfl (AllOne.cons rfl AllOne.nil) rfl (Nat.le_of_ble_eq_true rfl) ?_
      refine JL_store (vs := [_]) 7 ty33 rfl rfl rfl (AllOne.cons rfl AllOne.nil) rfl (Nat.le_of_ble_eq_true rfl) ?_
      refine JL_assign rfl ?_
      refine JL_done_up 43 [box _ _ [_], box _ _ [_], box _ _ [_, _, _], box _ _ [_], box _ _ [_], box _ _ [_], box _ _ [_], box _ _ [_]] [_, _, _, _, _, _, _] rfl rfl (by simp only [nrmF]; rfl) rfl rfl ?_
      refine JC_seq ?_
      refine JC_region ?_
      refine JL_move rfl ?_
      refine JL_loadA (vs := [_]) 4 ty33 rfl rfl ⟨rfl, trivial⟩ ?_
      refine JL_loadA (vs := [_]) 6 ty33 rfl rfl ⟨rfl, trivial⟩ ?_
      refine JL_build (cs := [_, _, _]) [(0, [_]), (1, [_]), (2, [_])] st35 ⟨⟨rfl, _, rfl, rfl⟩, ⟨rfl, _, rfl, rfl⟩, ⟨rfl, _, rfl, rfl⟩, rfl⟩ rfl ?_
      refine JL_store (vs := [_, _, _]) 2 ty35 rfl rfl rfl (AllOne.cons rfl (AllOne.cons rfl (AllOne.cons rfl AllOne.nil))) rfl (Nat.le_of_ble_eq_true rfl) ?_
      refine JL_done_up 43 [box _ _ [_], box _ _ [_], box _ _ [_, _, _], box _ _ [_], box _ _ [_], box _ _ [_], box _ _ [_], box _ _ [_]] [_, _, _, _, _, _, _] rfl rfl (by simp only [nrmF]; rfl) rfl rfl ?_
      refine JC_ret ?_
      refine JE_ret (vs := [_]) [vCells ad28 (u32s (limbsOf (x1 / Nat.gcd x1 x2))), vCells ad35 (u32s (limbsOf (x2 / Nat.gcd x1 x2)))] Tryd.results55 ⟨RV.cell (vs := [_, _, _]) 2 ty35 rfl rfl ⟨rfl, rfl, rfl, trivial⟩, rfl⟩ ?_ ?_
      · exact ⟨ad28, cap28, ad35, cap35, by rw [hM.1, hM.2.1, hM.2.2]; rfl, by rw [hM.2.1, hM.2.2]⟩
      · exact (all_cons (by repeat (first | with_reducible exact mm0 | refine mmS ?_)) (all_cons (by repeat (first | with_reducible exact mm0 | refine mmS ?_)) all_nil))

theorem rnormq_con {s1 : Bool} {ad1 : Option Addr} {n1 c1 : Nat} {L1 : List Nat} {be1 : Option Addr} {m1 e1 : Nat} {M1 : List Nat} {q1 : Rat} (g1 : FIn s1 n1 L1 m1 M1 q1 10000000) :
    ConF Tryd.prog 81 [.agg #[.bool s1, .slice ad1 n1 c1, .slice be1 m1 e1]] [vCells ad1 (u32s L1), vCells be1 (u32s M1)]
      (FO (some q1)) := by
  refine ConF_of Tryd.func81 rfl 10 _ rfl rfl ?_
  intro w0
  refine JC_norm ⟨10, [], [_, _, _, _, _, _, _, _, _, _]⟩ [] [_, _] rfl rfl rfl ?_
  refine JC_seq ?_
  refine JC_region ?_
  refine JL_box rfl rfl (fun b1 => ?_)
  refine JL_alloc z35 (fun b2 => ?_)
  refine JL_done_up 10 [box _ _ [_, _, _], box _ _ [_, _, _]] [_, _] rfl rfl (by simp only [nrmF]; rfl) rfl rfl ?_
  refine JC_seq ?_
  refine JC_region ?_
  refine JL_fieldAddr fo35_0 rfl ?_
  refine JL_load 0 ty4 rfl rfl rfl ?_
  refine JL_fieldAddr fo35_1 rfl ?_
  refine JL_loadA (vs := [_]) 0 ty33 rfl rfl ⟨rfl, trivial⟩ ?_
  refine JL_fieldAddr fo35_2 rfl ?_
  refine JL_loadA (vs := [_]) 0 ty33 rfl rfl ⟨rfl, trivial⟩ ?_
  refine JL_callF' (Asks.cons (holds_of_mem (by repeat (first | with_reducible exact mm0 | refine mmS ?_))) (Asks.cons (holds_of_mem (by repeat (first | with_reducible exact mm0 | refine mmS ?_))) Asks.nil)) (rmade_con (g1.num.mono (by omega)) (g1.den.mono (by omega)) g1.eq) rfl ca55 ⟨rfl, rfl, rfl, rfl⟩ ?_
  rintro _ _ ⟨ad9, cp9, be9, ce9, rfl, rfl⟩
  refine JL_store (vs := [_, _, _]) 1 ty35 rfl rfl rfl (AllOne.cons rfl (AllOne.cons rfl (AllOne.cons rfl AllOne.nil))) rfl (Nat.le_of_ble_eq_true rfl) ?_
  refine JL_done_up 10 [box _ _ [_, _, _], box _ _ [_, _, _]] [_, _, _, _] rfl rfl (by simp only [nrmF]; rfl) rfl rfl ?_
  refine JC_ret ?_
  refine JE_ret (vs := [_]) [vCells ad9 (u32s (fnum (some (q1)))), vCells be9 (u32s (fden (some (q1))))] Tryd.results81 ⟨RV.cell (vs := [_, _, _]) 1 ty35 rfl rfl ⟨rfl, rfl, rfl, trivial⟩, rfl⟩ ?_ ?_
  · exact ⟨ad9, cp9, be9, ce9, rfl, rfl⟩
  · exact (all_cons (by repeat (first | with_reducible exact mm0 | refine mmS ?_)) (all_cons (by repeat (first | with_reducible exact mm0 | refine mmS ?_)) all_nil))

theorem rneg_con {s1 : Bool} {ad1 : Option Addr} {n1 c1 : Nat} {L1 : List Nat} {be1 : Option Addr} {m1 e1 : Nat} {M1 : List Nat} {q1 : Rat} (g1 : FIn s1 n1 L1 m1 M1 q1 10000000) :
    ConF Tryd.prog 83 [.agg #[.bool s1, .slice ad1 n1 c1, .slice be1 m1 e1]] [vCells ad1 (u32s L1), vCells be1 (u32s M1)]
      (FO (some (-q1))) := by
  refine ConF_of Tryd.func83 rfl 11 _ rfl rfl ?_
  intro w0
  refine JC_norm ⟨11, [], [_, _, _, _, _, _, _, _, _, _, _]⟩ [] [_, _] rfl rfl rfl ?_
  refine JC_seq ?_
  refine JC_region ?_
  refine JL_box rfl rfl (fun b1 => ?_)
  refine JL_alloc z35 (fun b2 => ?_)
  refine JL_done_up 11 [box _ _ [_, _, _], box _ _ [_, _, _]] [_, _] rfl rfl (by simp only [nrmF]; rfl) rfl rfl ?_
  refine JC_seq ?_
  refine JC_region ?_
  refine JL_fieldAddr fo35_0 rfl ?_
  refine JL_load 0 ty4 rfl rfl rfl ?_
  refine JL_not rfl ?_
  refine JL_fieldAddr fo35_1 rfl ?_
  refine JL_loadA (vs := [_]) 0 ty33 rfl rfl ⟨rfl, trivial⟩ ?_
  refine JL_fieldAddr fo35_2 rfl ?_
  refine JL_loadA (vs := [_]) 0 ty33 rfl rfl ⟨rfl, trivial⟩ ?_
  refine JL_callF' (Asks.cons (holds_of_mem (by repeat (first | with_reducible exact mm0 | refine mmS ?_))) (Asks.cons (holds_of_mem (by repeat (first | with_reducible exact mm0 | refine mmS ?_))) Asks.nil)) (rmade_con (g1.num.mono (by omega)) (g1.den.mono (by omega)) (by rw [mkq_neg, g1.eq])) rfl ca55 ⟨rfl, rfl, rfl, rfl⟩ ?_
  rintro _ _ ⟨ad10, cp10, be10, ce10, rfl, rfl⟩
  refine JL_store (vs := [_, _, _]) 1 ty35 rfl rfl rfl (AllOne.cons rfl (AllOne.cons rfl (AllOne.cons rfl AllOne.nil))) rfl (Nat.le_of_ble_eq_true rfl) ?_
  refine JL_done_up 11 [box _ _ [_, _, _], box _ _ [_, _, _]] [_, _, _, _] rfl rfl (by simp only [nrmF]; rfl) rfl rfl ?_
  refine JC_ret ?_
  refine JE_ret (vs := [_]) [vCells ad10 (u32s (fnum (some (-q1)))), vCells be10 (u32s (fden (some (-q1))))] Tryd.results83 ⟨RV.cell (vs := [_, _, _]) 1 ty35 rfl rfl ⟨rfl, rfl, rfl, trivial⟩, rfl⟩ ?_ ?_
  · exact ⟨ad10, cp10, be10, ce10, rfl, rfl⟩
  · exact (all_cons (by repeat (first | with_reducible exact mm0 | refine mmS ?_)) (all_cons (by repeat (first | with_reducible exact mm0 | refine mmS ?_)) all_nil))

theorem rofi_con (n d : Int) (hn : -9223372036854775808 ≤ n ∧ n ≤ 9223372036854775807) (hn2 : -9223372036854775808 ≤ d ∧ d ≤ 9223372036854775807) :
    ConF Tryd.prog 34 [.int .i64 n, .int .i64 d] []
      (FO (some (ofq n d))) := by
  have h1 : (limbsOf n.natAbs).length ≤ 3 := limbsOf_len_of_lt (by omega)
  have h2 : (limbsOf d.natAbs).length ≤ 3 := limbsOf_len_of_lt (by omega)
  refine ConF_of Tryd.func34 rfl 15 _ rfl rfl ?_
  intro w0
  refine JC_norm ⟨15, [], [_, _, _, _, _, _, _, _, _, _, _, _, _, _, _]⟩ [] [] rfl rfl rfl ?_
  refine JC_seq ?_
  refine JC_region ?_
  refine JL_alloc z35 (fun b4 => ?_)
  refine JL_done_up 15 [box _ _ [_, _, _]] [] rfl rfl (by simp only [nrmF]; rfl) rfl rfl ?_
  refine JC_seq ?_
  refine JC_region ?_
  refine JL_move rfl ?_
  refine JL_lss rfl rfl ?_
  refine JL_move rfl ?_
  refine JL_lss rfl rfl ?_
  refine JL_neqB ub4 rfl rfl ?_
  refine JL_move rfl ?_
  refine JL_callF' Asks.nil (rmag_con hn) rfl ca56 ⟨rfl, rfl⟩ ?_
  rintro _ _ ⟨ad11, cap11, rfl, hk11, hm11, rfl⟩
  refine JL_move rfl ?_
  refine JL_callF' Asks.nil (rmag_con hn2) rfl ca56 ⟨rfl, rfl⟩ ?_
  rintro _ _ ⟨ad13, cap13, rfl, hk13, hm13, rfl⟩
  refine JL_callF' (Asks.cons (holds_of_mem (by repeat (first | with_reducible exact mm0 | refine mmS ?_))) (Asks.cons (holds_of_mem (by repeat (first | with_reducible exact mm0 | refine mmS ?_))) Asks.nil)) (rmade_con (q := ofq n d) (NIn.of (by omega)) (NIn.of (by omega)) rfl) rfl ca55 ⟨rfl, rfl, rfl, rfl⟩ ?_
  rintro _ _ ⟨ad14, cp14, be14, ce14, rfl, rfl⟩
  refine JL_store (vs := [_, _, _]) 0 ty35 rfl rfl rfl (AllOne.cons rfl (AllOne.cons rfl (AllOne.cons rfl AllOne.nil))) rfl (Nat.le_of_ble_eq_true rfl) ?_
  refine JL_done_up 15 [box _ _ [_, _, _]] [_, _, _, _] rfl rfl (by simp only [nrmF]; rfl) rfl rfl ?_
  refine JC_ret ?_
  refine JE_ret (vs := [_]) [vCells ad14 (u32s (fnum (some (ofq n d)))), vCells be14 (u32s (fden (some (ofq n d))))] Tryd.results34 ⟨RV.cell (vs := [_, _, _]) 0 ty35 rfl rfl ⟨rfl, rfl, rfl, trivial⟩, rfl⟩ ?_ ?_
  · exact ⟨ad14, cp14, be14, ce14, rfl, rfl⟩
  · exact (all_cons (by repeat (first | with_reducible exact mm0 | refine mmS ?_)) (all_cons (by repeat (first | with_reducible exact mm0 | refine mmS ?_)) all_nil))

theorem rsign_con {s1 : Bool} {ad1 : Option Addr} {n1 c1 : Nat} {L1 : List Nat} {be1 : Option Addr} {m1 e1 : Nat} {M1 : List Nat} {q1 : Rat} (g1 : FIn s1 n1 L1 m1 M1 q1 10000000) :
    ConF Tryd.prog 57 [.agg #[.bool s1, .slice ad1 n1 c1, .slice be1 m1 e1]] [vCells ad1 (u32s L1), vCells be1 (u32s M1)]
      (fun v φo => v = .int .i64 (sgnQ q1) ∧ φo = []) := by
  have hq1 := g1.qs.mono (b := 100000000) (by decide)
  refine ConF_of Tryd.func57 rfl 12 _ rfl rfl ?_
  intro w0
  refine JC_norm ⟨12, [], [_, _, _, _, _, _, _, _, _, _, _, _]⟩ [] [_, _] rfl rfl rfl ?_
  refine JC_seq ?_
  refine JC_region ?_
  refine JL_box rfl rfl (fun b1 => ?_)
  refine JL_assign rfl ?_
  refine JL_done_up 12 [box _ _ [_, _, _]] [_, _] rfl rfl (by simp only [nrmF]; rfl) rfl rfl ?_
  refine JC_seq ?_
  refine JC_region ?_
  refine JL_loadA (vs := [_, _, _]) 0 ty35 rfl rfl ⟨rfl, rfl, rfl, trivial⟩ ?_
  refine JL_callF' (Asks.cons (holds_of_mem (by repeat (first | with_reducible exact mm0 | refine mmS ?_))) (Asks.cons (holds_of_mem (by repeat (first | with_reducible exact mm0 | refine mmS ?_))) Asks.nil)) (rnormq_con g1) rfl ca81 ⟨rfl, rfl⟩ ?_
  rintro _ _ ⟨ad4, cp4, be4, ce4, rfl, rfl⟩
  refine JL_store (vs := [_, _, _]) 0 ty35 rfl rfl rfl (AllOne.cons rfl (AllOne.cons rfl (AllOne.cons rfl AllOne.nil))) rfl (Nat.le_of_ble_eq_true rfl) ?_
  refine JL_done_up 12 [box _ _ [_, _, _]] [_, _, _, _] rfl rfl (by simp only [nrmF]; rfl) rfl rfl ?_
  refine JC_seq ?_
  refine JC_block ?_
  refine JC_seq ?_
  refine JC_region ?_
  refine JL_fieldAddr fo35_1 rfl ?_
  refine JL_loadA (vs := [_]) 0 ty33 rfl rfl ⟨rfl, trivial⟩ ?_
  refine JL_callF' (Asks.cons (holds_of_mem (by repeat (first | with_reducible exact mm0 | refine mmS ?_))) Asks.nil) (rzero_con (NIn.num hq1)) rfl ca76 ⟨rfl, rfl⟩ ?_
  rintro _ _ ⟨rfl, rfl⟩
  refine JL_split (fun h8 => ?_) (fun h8 => ?_)
  · refine JL_assign rfl ?_
    refine JL_done_up 12 [box _ _ [_, _, _]] [_, _, _, _] rfl rfl (by simp only [nrmF]; rfl) rfl rfl ?_
    refine JC_true rfl ?_
    refine JC_seq ?_
    refine JC_region ?_
    refine JL_assign rfl ?_
    refine JL_done_up 12 [box _ _ [_, _, _]] [_, _, _, _] rfl rfl (by simp only [nrmF]; rfl) rfl rfl ?_
    refine JC_ret ?_
    refine JE_block_ret ?_
    refine JE_then_ret ?_
    refine JE_ret (vs := [_]) [] Tryd.results57 ⟨rfl, rfl⟩ ?_ ?_
    · exact ⟨by rw [sgnQ_num0 h8]; rfl, rfl⟩
    · exact all_nil
  · refine JL_assign rfl ?_
    refine JL_done_up 12 [box _ _ [_, _, _]] [_, _, _, _] rfl rfl (by simp only [nrmF]; rfl) rfl rfl ?_
    refine JC_false rfl ?_
    refine JC_seq ?_
    refine JC_region ?_
    refine JL_fieldAddr fo35_0 rfl ?_
    refine JL_load 0 ty4 rfl rfl rfl ?_
    refine JL_assign rfl ?_
    refine JL_done_up 12 [box _ _ [_, _, _]] [_, _, _, _] rfl rfl (by simp only [nrmF]; rfl) rfl rfl ?_
    refine JC_cond rfl (fun hb => ?_) (fun hb => ?_)
    · have h9 := hb
      refine JC_seq ?_
      refine JC_region ?_
      refine JL_assign rfl ?_
      refine JL_done_up 12 [box _ _ [_, _, _]] [_, _, _, _] rfl rfl (by simp only [nrmF]; rfl) rfl rfl ?_
      refine JC_ret ?_
      refine JE_block_ret ?_
      refine JE_then_ret ?_
      refine JE_ret (vs := [_]) [] Tryd.results57 ⟨rfl, rfl⟩ ?_ ?_
      · exact ⟨by rw [sgnQ_ne h8, h9]; rfl, rfl⟩
      · exact all_nil
    · have h9 := hb
      refine JC_skip ?_
      refine JE_block_normal ?_
      refine JE_then ?_
      refine JC_seq ?_
      refine JC_region ?_
      refine JL_assign rfl ?_
      refine JL_done_up 12 [box _ _ [_, _, _]] [_, _, _, _] rfl rfl (by simp only [nrmF]; rfl) rfl rfl ?_
      refine JC_ret ?_
      refine JE_ret (vs := [_]) [] Tryd.results57 ⟨rfl, rfl⟩ ?_ ?_
      · exact ⟨by rw [sgnQ_ne h8, h9]; rfl, rfl⟩
      · exact all_nil

theorem raddq_con {s1 : Bool} {ad1 : Option Addr} {n1 c1 : Nat} {L1 : List Nat} {be1 : Option Addr} {m1 e1 : Nat} {M1 : List Nat} {q1 : Rat} (g1 : FIn s1 n1 L1 m1 M1 q1 5000000) {s2 : Bool} {ad2 : Option Addr} {n2 c2 : Nat} {L2 : List Nat} {be2 : Option Addr} {m2 e2 : Nat} {M2 : List Nat} {q2 : Rat} (g2 : FIn s2 n2 L2 m2 M2 q2 5000000) :
    ConF Tryd.prog 82 [.agg #[.bool s1, .slice ad1 n1 c1, .slice be1 m1 e1], .agg #[.bool s2, .slice ad2 n2 c2, .slice be2 m2 e2]] [vCells ad1 (u32s L1), vCells be1 (u32s M1), vCells ad2 (u32s L2), vCells be2 (u32s M2)]
      (FO (some (q1 + q2))) := by
  have hq1 := g1.qs.mono (b := 5000001) (by decide)
  have hq2 := g2.qs.mono (b := 5000001) (by decide)
  have hb1n := hq1.1
  have hb1d := hq1.2
  have hb2n := hq2.1
  have hb2d := hq2.2
  have hmA := len_limbsOf_mul q1.num.natAbs q2.den
  have hmB := len_limbsOf_mul q2.num.natAbs q1.den
  have hmC := len_limbsOf_mul q1.den q2.den
  have hmD := len_limbsOf_add (q1.num.natAbs * q2.den) (q2.num.natAbs * q1.den)
  refine ConF_of Tryd.func82 rfl 69 _ rfl rfl ?_
  intro w0
  refine JC_norm ⟨69, [], [_, _, _, _, _, _, _, _, _, _, _, _, _, _, _, _, _, _, _, _, _, _, _, _, _, _, _, _, _, _, _, _, _, _, _, _, _, _, _, _, _, _, _, _, _, _, _, _, _, _, _, _, _, _, _, _, _, _, _, _, _, _, _, _, _, _, _, _, _]⟩ [] [_, _, _, _] rfl rfl rfl ?_
  refine JC_seq ?_
  refine JC_region ?_
  refine JL_box rfl rfl (fun b2 => ?_)
  refine JL_box rfl rfl (fun b3 => ?_)
  refine JL_alloc z35 (fun b4 => ?_)
  refine JL_done_up 69 [box _ _ [_, _, _], box _ _ [_, _, _], box _ _ [_, _, _]] [_, _, _, _] rfl rfl (by simp only [nrmF]; rfl) rfl rfl ?_
  refine JC_seq ?_
  refine JC_drawT mixed 3 [spV 12 [] _, spC 13 [0] _, spV 14 [] _] ⟨OblS_V (fun vals ex ψ => (by
      refine JL_normQ ⟨69, [(12, _), (13, _), (14, _)], _⟩ (_ :: _ :: _ :: _ :: ψ) rfl rfl ?_
      refine JL_loadA (vs := [_, _, _]) 0 ty35 rfl rfl ⟨rfl, rfl, rfl, trivial⟩ ?_
      exact JL_nil (JE_stepV rfl ss0))), OblS_C (fun vals ex ψ => (by
      refine JL_normQ ⟨69, [(12, _), (13, _), (14, _)], _⟩ (_ :: _ :: _ :: _ :: ψ) rfl rfl ?_
      refine JL_callF' (Asks.cons (holds_of_mem (by repeat (first | with_reducible exact mm0 | refine mmS ?_))) (Asks.cons (holds_of_mem (by repeat (first | with_reducible exact mm0 | refine mmS ?_))) Asks.nil)) (rnormq_con (g1.mono (by omega))) rfl ca81 ⟨rfl, rfl⟩ ?_
      exact fun v φo hP => JL_nil (JE_stepC φo rfl hP (fun p hp => mapB_l hp) (fun p hp => mapB_r (ss0 p hp))))), OblS_V (fun vals ex ψ => (by
      refine JL_normQ ⟨69, [(12, _), (13, _), (14, _)], _⟩ (_ :: _ :: _ :: _ :: ψ) rfl rfl ?_
      refine JL_loadA (vs := [_, _, _]) 1 ty35 rfl rfl ⟨rfl, rfl, rfl, trivial⟩ ?_
      exact JL_nil (JE_stepV rfl ss0))), trivial⟩ (by kernel_rfl) (fun vals bs => ?_)
  refine JL_normL [_, _, _] ⟨69, [(12, _), (13, _), (14, _)], _⟩ [box _ _ [_, _, _], box _ _ [_, _, _], box _ _ [_, _, _]] [_, _, _, _, _] rfl rfl rfl rfl ?_
  generalize vals (0 + 1) = x13
  refine JL_usePost mm0 (fun φo hP => ?_)
  obtain ⟨ad13, cp13, be13, ce13, rfl, rfl⟩ := hP
  refine JL_norm _ [box _ _ [_, _, _], box _ _ [_, _, _], box _ _ [_, _, _]] [_, _, _, _, _, _, _] rfl rfl rfl ?_
  refine JL_callF' (Asks.cons (holds_of_mem (by repeat (first | with_reducible exact mm0 | refine mmS ?_))) (Asks.cons (holds_of_mem (by repeat (first | with_reducible exact mm0 | refine mmS ?_))) Asks.nil)) (rnormq_con (g2.mono (by omega))) rfl ca81 ⟨rfl, rfl⟩ ?_
  rintro _ _ ⟨ad15, cp15, be15, ce15, rfl, rfl⟩
  refine JL_store (vs := [_, _, _]) 0 ty35 rfl rfl rfl (AllOne.cons rfl (AllOne.cons rfl (AllOne.cons rfl AllOne.nil))) rfl (Nat.le_of_ble_eq_true rfl) ?_
  refine JL_store (vs := [_, _, _]) 1 ty35 rfl rfl rfl (AllOne.cons rfl (AllOne.cons rfl (AllOne.cons rfl AllOne.nil))) rfl (Nat.le_of_ble_eq_true rfl) ?_
  refine JL_done_up 69 [box _ _ [_, _, _], box _ _ [_, _, _], box _ _ [_, _, _]] [_, _, _, _, _, _, _, _, _] rfl rfl (by simp only [nrmF]; rfl) rfl rfl ?_
  refine JC_seq ?_
  refine JC_region ?_
  refine JL_fieldAddr fo35_1 rfl ?_
  refine JL_loadA (vs := [_]) 0 ty33 rfl rfl ⟨rfl, trivial⟩ ?_
  refine JL_fieldAddr fo35_2 rfl ?_
  refine JL_loadA (vs := [_]) 1 ty33 rfl rfl ⟨rfl, trivial⟩ ?_
  refine JL_callF' (Asks.cons (holds_of_mem (by repeat (first | with_reducible exact mm0 | refine mmS ?_))) (Asks.cons (holds_of_mem (by repeat (first | with_reducible exact mm0 | refine mmS ?_))) Asks.nil)) (rmul_con _ _ _ _ _ ((NIn.num hq1).mono (by omega)) _ _ _ _ _ ((NIn.den hq2).mono (by omega)) _ rfl) rfl ca96 ⟨rfl, rfl, rfl⟩ ?_
  rintro _ _ ⟨ad20, cap20, rfl, hk20, hm20, rfl⟩
  refine JL_alloc z33 (fun b5 => ?_)
  refine JL_store (vs := [_]) 3 ty33 rfl rfl rfl (AllOne.cons rfl AllOne.nil) rfl (Nat.le_of_ble_eq_true rfl) ?_
  refine JL_done_up 69 [box _ _ [_, _, _], box _ _ [_, _, _], box _ _ [_, _, _], box _ _ [_]] [_, _, _, _, _, _, _, _, _, _] rfl rfl (by simp only [nrmF]; rfl) rfl rfl ?_
  refine JC_seq ?_
  refine JC_region ?_
  refine JL_fieldAddr fo35_1 rfl ?_
  refine JL_loadA (vs := [_]) 1 ty33 rfl rfl ⟨rfl, trivial⟩ ?_
  refine JL_fieldAddr fo35_2 rfl ?_
  refine JL_loadA (vs := [_]) 0 ty33 rfl rfl ⟨rfl, trivial⟩ ?_
  refine JL_callF' (Asks.cons (holds_of_mem (by repeat (first | with_reducible exact mm0 | refine mmS ?_))) (Asks.cons (holds_of_mem (by repeat (first | with_reducible exact mm0 | refine mmS ?_))) Asks.nil)) (rmul_con _ _ _ _ _ ((NIn.num hq2).mono (by omega)) _ _ _ _ _ ((NIn.den hq1).mono (by omega)) _ rfl) rfl ca96 ⟨rfl, rfl, rfl⟩ ?_
  rintro _ _ ⟨ad25, cap25, rfl, hk25, hm25, rfl⟩
  refine JL_alloc z33 (fun b6 => ?_)
  refine JL_store (vs := [_]) 4 ty33 rfl rfl rfl (AllOne.cons rfl AllOne.nil) rfl (Nat.le_of_ble_eq_true rfl) ?_
  refine JL_done_up 69 [box _ _ [_, _, _], box _ _ [_, _, _], box _ _ [_, _, _], box _ _ [_], box _ _ [_]] [_, _, _, _, _, _, _, _, _, _, _] rfl rfl (by simp only [nrmF]; rfl) rfl rfl ?_
  refine JC_seq ?_
  refine JC_region ?_
  refine JL_fieldAddr fo35_2 rfl ?_
  refine JL_loadA (vs := [_]) 0 ty33 rfl rfl ⟨rfl, trivial⟩ ?_
  refine JL_fieldAddr fo35_2 rfl ?_
  refine JL_loadA (vs := [_]) 1 ty33 rfl rfl ⟨rfl, trivial⟩ ?_
  refine JL_callF' (Asks.cons (holds_of_mem (by repeat (first | with_reducible exact mm0 | refine mmS ?_))) (Asks.cons (holds_of_mem (by repeat (first | with_reducible exact mm0 | refine mmS ?_))) Asks.nil)) (rmul_con _ _ _ _ _ ((NIn.den hq1).mono (by omega)) _ _ _ _ _ ((NIn.den hq2).mono (by omega)) _ rfl) rfl ca96 ⟨rfl, rfl, rfl⟩ ?_
  rintro _ _ ⟨ad30, cap30, rfl, hk30, hm30, rfl⟩
  refine JL_alloc z33 (fun b7 => ?_)
  refine JL_store (vs := [_]) 5 ty33 rfl rfl rfl (AllOne.cons rfl AllOne.nil) rfl (Nat.le_of_ble_eq_true rfl) ?_
  refine JL_done_up 69 [box _ _ [_, _, _], box _ _ [_, _, _], box _ _ [_, _, _], box _ _ [_], box _ _ [_], box _ _ [_]] [_, _, _, _, _, _, _, _, _, _, _, _] rfl rfl (by simp only [nrmF]; rfl) rfl rfl ?_
  refine JC_seq ?_
  refine JC_seq ?_
  refine JC_region ?_
  refine JL_fieldAddr fo35_0 rfl ?_
  refine JL_load 0 ty4 rfl rfl rfl ?_
  refine JL_fieldAddr fo35_0 rfl ?_
  refine JL_load 1 ty4 rfl rfl rfl ?_
  refine JL_eqlB ub4 rfl rfl ?_
  refine JL_splitEqB (fun h35 => ?_) (fun h35 => ?_)
  · refine JL_done_up 69 [box _ _ [_, _, _], box _ _ [_, _, _], box _ _ [_, _, _], box _ _ [_], box _ _ [_], box _ _ [_]] [_, _, _, _, _, _, _, _, _, _, _, _] rfl rfl (by simp only [nrmF]; rfl) rfl rfl ?_
    refine JC_true rfl ?_
    refine JC_seq ?_
    refine JC_drawT mixed 6 [spV 36 [] _, spV 37 [0] _, spV 38 [] _, spV 39 [] _, spC 40 [2, 3] _, spV 41 [] _] ⟨OblS_V (fun vals ex ψ => (by
        refine JL_normQ ⟨69, [(36, _), (37, _), (38, _), (39, _), (40, _), (41, _)], _⟩ (_ :: _ :: _ :: _ :: _ :: _ :: _ :: _ :: _ :: _ :: _ :: _ :: ψ) rfl rfl ?_
        refine JL_fieldAddr fo35_0 rfl ?_
        exact JL_nil (JE_stepV rfl ss0))), OblS_V (fun vals ex ψ => (by
        refine JL_normQ ⟨69, [(36, _), (37, _), (38, _), (39, _), (40, _), (41, _)], _⟩ (_ :: _ :: _ :: _ :: _ :: _ :: _ :: _ :: _ :: _ :: _ :: _ :: ψ) rfl rfl ?_
        refine JL_load 0 ty4 rfl rfl rfl ?_
        exact JL_nil (JE_stepV rfl ss0))), OblS_V (fun vals ex ψ => (by
        refine JL_normQ ⟨69, [(36, _), (37, _), (38, _), (39, _), (40, _), (41, _)], _⟩ (_ :: _ :: _ :: _ :: _ :: _ :: _ :: _ :: _ :: _ :: _ :: _ :: ψ) rfl rfl ?_
        refine JL_loadA (vs := [_]) 3 ty33 rfl rfl ⟨rfl, trivial⟩ ?_
        exact JL_nil (JE_stepV rfl ss0))), OblS_V (fun vals ex ψ => (by
        refine JL_normQ ⟨69, [(36, _), (37, _), (38, _), (39, _), (40, _), (41, _)], _⟩ (_ :: _ :: _ :: _ :: _ :: _ :: _ :: _ :: _ :: _ :: _ :: _ :: ψ) rfl rfl ?_
        refine JL_loadA (vs := [_]) 4 ty33 rfl rfl ⟨rfl, trivial⟩ ?_
        exact JL_nil (JE_stepV rfl ss0))), OblS_C (fun vals ex ψ => (by
        refine JL_normQ ⟨69, [(36, _), (37, _), (38, _), (39, _), (40, _), (41, _)], _⟩ (_ :: _ :: _ :: _ :: _ :: _ :: _ :: _ :: _ :: _ :: _ :: _ :: ψ) rfl rfl ?_
        refine JL_callF' (Asks.cons (holds_of_mem (by repeat (first | with_reducible exact mm0 | refine mmS ?_))) (Asks.cons (holds_of_mem (by repeat (first | with_reducible exact mm0 | refine mmS ?_))) Asks.nil)) (radd_con _ _ _ _ _ (NIn.of (by omega)) _ _ _ _ _ (NIn.of (by omega)) _ rfl) rfl ca98 ⟨rfl, rfl, rfl⟩ ?_
        exact fun v φo hP => JL_nil (JE_stepC φo rfl hP (fun p hp => mapB_l hp) (fun p hp => mapB_r (ss0 p hp))))), OblS_V (fun vals ex ψ => (by
        refine JL_normQ ⟨69, [(36, _), (37, _), (38, _), (39, _), (40, _), (41, _)], _⟩ (_ :: _ :: _ :: _ :: _ :: _ :: _ :: _ :: _ :: _ :: _ :: _ :: ψ) rfl rfl ?_
        refine JL_loadA (vs := [_]) 5 ty33 rfl rfl ⟨rfl, trivial⟩ ?_
        exact JL_nil (JE_stepV rfl ss0))), trivial⟩ (by kernel_rfl) (fun vals bs => ?_)
    refine JL_normL [_, _] ⟨69, [(36, _), (37, _), (38, _), (39, _), (40, _), (41, _)], _⟩ [box _ _ [_, _, _], box _ _ [_, _, _], box _ _ [_, _, _], box _ _ [_], box _ _ [_], box _ _ [_]] [_, _, _, _, _, _, _, _, _, _, _, _, _] rfl rfl rfl rfl ?_
    generalize vals (0 + 1 + 1 + 1 + 1) = x40
    refine JL_usePost mm0 (fun φo hP => ?_)
    obtain ⟨ad40, cap40, rfl, hk40, hm40, rfl⟩ := hP
    refine JL_norm _ [box _ _ [_, _, _], box _ _ [_, _, _], box _ _ [_, _, _], box _ _ [_], box _ _ [_], box _ _ [_]] [_, _, _, _, _, _, _, _, _, _, _, _, _, _] rfl rfl rfl ?_
    refine JL_callF' (Asks.cons (holds_of_mem (by repeat (first | with_reducible exact mm0 | refine mmS ?_))) (Asks.cons (holds_of_mem (by repeat (first | with_reducible exact mm0 | refine mmS ?_))) Asks.nil)) (rmade_con (NIn.of (by omega)) (NIn.of (by omega)) (qadd_same h35)) rfl ca55 ⟨rfl, rfl, rfl, rfl⟩ ?_
    rintro _ _ ⟨ad42, cp42, be42, ce42, rfl, rfl⟩
    refine JL_store (vs := [_, _, _]) 2 ty35 rfl rfl rfl (AllOne.cons rfl (AllOne.cons rfl (AllOne.cons rfl AllOne.nil))) rfl (Nat.le_of_ble_eq_true rfl) ?_
    refine JL_done_up 69 [box _ _ [_, _, _], box _ _ [_, _, _], box _ _ [_, _, _], box _ _ [_], box _ _ [_], box _ _ [_]] [_, _, _, _, _, _, _, _, _, _, _, _, _, _, _, _] rfl rfl (by simp only [nrmF]; rfl) rfl rfl ?_
    refine JC_ret ?_
    refine JE_then_ret ?_
    refine JE_ret (vs := [_]) [vCells ad42 (u32s (fnum (some (q1 + q2)))), vCells be42 (u32s (fden (some (q1 + q2))))] Tryd.results82 ⟨RV.cell (vs := [_, _, _]) 2 ty35 rfl rfl ⟨rfl, rfl, rfl, trivial⟩, rfl⟩ ?_ ?_
    · exact ⟨ad42, cp42, be42, ce42, rfl, rfl⟩
    · exact (all_cons (by repeat (first | with_reducible exact mm0 | refine mmS ?_)) (all_cons (by repeat (first | with_reducible exact mm0 | refine mmS ?_)) all_nil))
  · refine JL_done_up 69 [box _ _ [_, _, _], box _ _ [_, _, _], box _ _ [_, _, _], box _ _ [_], box _ _ [_], box _ _ [_]] [_, _, _, _, _, _, _, _, _, _, _, _] rfl rfl (by simp only [nrmF]; rfl) rfl rfl ?_
    refine JC_false rfl ?_
    refine JC_skip ?_
    refine JE_then ?_
    refine JC_seq ?_
    refine JC_seq ?_
    refine JC_region ?_
    refine JL_loadA (vs := [_]) 3 ty33 rfl rfl ⟨rfl, trivial⟩ ?_
    refine JL_loadA (vs := [_]) 4 ty33 rfl rfl ⟨rfl, trivial⟩ ?_
    refine JL_callF' (Asks.cons (holds_of_mem (by repeat (first | with_reducible exact mm0 | refine mmS ?_))) (Asks.cons (holds_of_mem (by repeat (first | with_reducible exact mm0 | refine mmS ?_))) Asks.nil)) (rcmp_con _ _ _ _ _ (NIn.of (by omega)) _ _ _ _ _ (NIn.of (by omega))) rfl ca94 ⟨rfl, rfl, rfl⟩ ?_
    rintro _ _ ⟨rfl, rfl⟩
    refine JL_geq rfl rfl ?_
    refine JL_split (fun h46 => ?_) (fun h46 => ?_)
    · have hge : q2.num.natAbs * q1.den ≤ q1.num.natAbs * q2.den := by have := cmpN_neg (n := q1.num.natAbs * q2.den) (m := q2.num.natAbs * q1.den); omega
      refine JL_done_up 69 [box _ _ [_, _, _], box _ _ [_, _, _], box _ _ [_, _, _], box _ _ [_], box _ _ [_], box _ _ [_]] [_, _, _, _, _, _, _, _, _, _, _, _] rfl rfl (by simp only [nrmF]; rfl) rfl rfl ?_
      refine JC_true rfl ?_
      refine JC_seq ?_
      refine JC_region ?_
      refine JL_loadA (vs := [_]) 3 ty33 rfl rfl ⟨rfl, trivial⟩ ?_
      refine JL_loadA (vs := [_]) 4 ty33 rfl rfl ⟨rfl, trivial⟩ ?_
      have hsl := len_limbsOf_le (Nat.sub_le (q1.num.natAbs * q2.den) (q2.num.natAbs * q1.den))
      refine JL_callF' (Asks.cons (holds_of_mem (by repeat (first | with_reducible exact mm0 | refine mmS ?_))) (Asks.cons (holds_of_mem (by repeat (first | with_reducible exact mm0 | refine mmS ?_))) Asks.nil)) (rsub_con _ _ _ _ _ (NIn.of (by omega)) _ _ _ _ _ (NIn.of (by omega)) _ rfl) rfl ca97 ⟨rfl, rfl, rfl⟩ ?_
      rintro _ _ ⟨ad50, cap50, rfl, hk50, hm50, rfl⟩
      refine JL_move rfl ?_
      refine JL_extract rfl rfl ?_
      refine JL_extract rfl rfl ?_
      refine JL_alloc z33 (fun b8 => ?_)
      refine JL_store (vs := [_]) 6 ty33 rfl rfl rfl (AllOne.cons rfl AllOne.nil) rfl (Nat.le_of_ble_eq_true rfl) ?_
      refine JL_assign rfl ?_
      refine JL_done_up 69 [box _ _ [_, _, _], box _ _ [_, _, _], box _ _ [_, _, _], box _ _ [_], box _ _ [_], box _ _ [_], box _ _ [_]] [_, _, _, _, _, _, _, _, _, _, _, _, _] rfl rfl (by simp only [nrmF]; rfl) rfl rfl ?_
      refine JC_seq ?_
      refine JC_region ?_
      refine JL_fieldAddr fo35_0 rfl ?_
      refine JL_load 0 ty4 rfl rfl rfl ?_
      refine JL_loadA (vs := [_]) 6 ty33 rfl rfl ⟨rfl, trivial⟩ ?_
      refine JL_loadA (vs := [_]) 5 ty33 rfl rfl ⟨rfl, trivial⟩ ?_
      refine JL_callF' (Asks.cons (holds_of_mem (by repeat (first | with_reducible exact mm0 | refine mmS ?_))) (Asks.cons (holds_of_mem (by repeat (first | with_reducible exact mm0 | refine mmS ?_))) Asks.nil)) (rmade_con (NIn.of (by omega)) (NIn.of (by omega)) (qadd_ge h35 hge)) rfl ca55 ⟨rfl, rfl, rfl, rfl⟩ ?_
      rintro _ _ ⟨ad57, cp57, be57, ce57, rfl, rfl⟩
      refine JL_store (vs := [_, _, _]) 2 ty35 rfl rfl rfl (AllOne.cons rfl (AllOne.cons rfl (AllOne.cons rfl AllOne.nil))) rfl (Nat.le_of_ble_eq_true rfl) ?_
      refine JL_done_up 69 [box _ _ [_, _, _], box _ _ [_, _, _], box _ _ [_, _, _], box _ _ [_], box _ _ [_], box _ _ [_], box _ _ [_]] [_, _, _, _, _, _, _, _, _, _, _, _, _, _, _] rfl rfl (by simp only [nrmF]; rfl) rfl rfl ?_
      refine JC_ret ?_
      refine JE_then_ret ?_
      refine JE_ret (vs := [_]) [vCells ad57 (u32s (fnum (some (q1 + q2)))), vCells be57 (u32s (fden (some (q1 + q2))))] Tryd.results82 ⟨RV.cell (vs := [_, _, _]) 2 ty35 rfl rfl ⟨rfl, rfl, rfl, trivial⟩, rfl⟩ ?_ ?_
      · exact ⟨ad57, cp57, be57, ce57, rfl, rfl⟩
      · exact (all_cons (by repeat (first | with_reducible exact mm0 | refine mmS ?_)) (all_cons (by repeat (first | with_reducible exact mm0 | refine mmS ?_)) all_nil))
    · have hlt : q1.num.natAbs * q2.den ≤ q2.num.natAbs * q1.den := Nat.le_of_lt (cmpN_neg.1 (by omega))
      refine JL_done_up 69 [box _ _ [_, _, _], box _ _ [_, _, _], box _ _ [_, _, _], box _ _ [_], box _ _ [_], box _ _ [_]] [_, _, _, _, _, _, _, _, _, _, _, _] rfl rfl (by simp only [nrmF]; rfl) rfl rfl ?_
      refine JC_false rfl ?_
      refine JC_skip ?_
      refine JE_then ?_
      refine JC_seq ?_
      refine JC_region ?_
      refine JL_loadA (vs := [_]) 4 ty33 rfl rfl ⟨rfl, trivial⟩ ?_
      refine JL_loadA (vs := [_]) 3 ty33 rfl rfl ⟨rfl, trivial⟩ ?_
      have hsl := len_limbsOf_le (Nat.sub_le (q2.num.natAbs * q1.den) (q1.num.natAbs * q2.den))
      refine JL_callF' (Asks.cons (holds_of_mem (by repeat (first | with_reducible exact mm0 | refine mmS ?_))) (Asks.cons (holds_of_mem (by repeat (first | with_reducible exact mm0 | refine mmS ?_))) Asks.nil)) (rsub_con _ _ _ _ _ (NIn.of (by omega)) _ _ _ _ _ (NIn.of (by omega)) _ rfl) rfl ca97 ⟨rfl, rfl, rfl⟩ ?_
      rintro _ _ ⟨ad61, cap61, rfl, hk61, hm61, rfl⟩
      refine JL_move rfl ?_
      refine JL_extract rfl rfl ?_
      refine JL_extract rfl rfl ?_
      refine JL_alloc z33 (fun b10 => ?_)
      refine JL_store (vs := [_]) 6 ty33 rfl rfl rfl (AllOne.cons rfl AllOne.nil) rfl (Nat.le_of_ble_eq_true rfl) ?_
      refine JL_assign rfl ?_
      refine JL_done_up 69 [box _ _ [_, _, _], box _ _ [_, _, _], box _ _ [_, _, _], box _ _ [_], box _ _ [_], box _ _ [_], box _ _ [_]] [_, _, _, _, _, _, _, _, _, _, _, _, _] rfl rfl (by simp only [nrmF]; rfl) rfl rfl ?_
      refine JC_seq ?_
      refine JC_region ?_
      refine JL_fieldAddr fo35_0 rfl ?_
      refine JL_load 1 ty4 rfl rfl rfl ?_
      refine JL_loadA (vs := [_]) 6 ty33 rfl rfl ⟨rfl, trivial⟩ ?_
      refine JL_loadA (vs := [_]) 5 ty33 rfl rfl ⟨rfl, trivial⟩ ?_
      refine JL_callF' (Asks.cons (holds_of_mem (by repeat (first | with_reducible exact mm0 | refine mmS ?_))) (Asks.cons (holds_of_mem (by repeat (first | with_reducible exact mm0 | refine mmS ?_))) Asks.nil)) (rmade_con (NIn.of (by omega)) (NIn.of (by omega)) (qadd_le h35 hlt)) rfl ca55 ⟨rfl, rfl, rfl, rfl⟩ ?_
      rintro _ _ ⟨ad68, cp68, be68, ce68, rfl, rfl⟩
      refine JL_store (vs := [_, _, _]) 2 ty35 rfl rfl rfl (AllOne.cons rfl (AllOne.cons rfl (AllOne.cons rfl AllOne.nil))) rfl (Nat.le_of_ble_eq_true rfl) ?_
      refine JL_done_up 69 [box _ _ [_, _, _], box _ _ [_, _, _], box _ _ [_, _, _], box _ _ [_], box _ _ [_], box _ _ [_], box _ _ [_]] [_, _, _, _, _, _, _, _, _, _, _, _, _, _, _] rfl rfl (by simp only [nrmF]; rfl) rfl rfl ?_
      refine JC_ret ?_
      refine JE_ret (vs := [_]) [vCells ad68 (u32s (fnum (some (q1 + q2)))), vCells be68 (u32s (fden (some (q1 + q2))))] Tryd.results82 ⟨RV.cell (vs := [_, _, _]) 2 ty35 rfl rfl ⟨rfl, rfl, rfl, trivial⟩, rfl⟩ ?_ ?_
      · exact ⟨ad68, cp68, be68, ce68, rfl, rfl⟩
      · exact (all_cons (by repeat (first | with_reducible exact mm0 | refine mmS ?_)) (all_cons (by repeat (first | with_reducible exact mm0 | refine mmS ?_)) all_nil))

theorem rsubq_con {s1 : Bool} {ad1 : Option Addr} {n1 c1 : Nat} {L1 : List Nat} {be1 : Option Addr} {m1 e1 : Nat} {M1 : List Nat} {q1 : Rat} (g1 : FIn s1 n1 L1 m1 M1 q1 4000000) {s2 : Bool} {ad2 : Option Addr} {n2 c2 : Nat} {L2 : List Nat} {be2 : Option Addr} {m2 e2 : Nat} {M2 : List Nat} {q2 : Rat} (g2 : FIn s2 n2 L2 m2 M2 q2 4000000) :
    ConF Tryd.prog 58 [.agg #[.bool s1, .slice ad1 n1 c1, .slice be1 m1 e1], .agg #[.bool s2, .slice ad2 n2 c2, .slice be2 m2 e2]] [vCells ad1 (u32s L1), vCells be1 (u32s M1), vCells ad2 (u32s L2), vCells be2 (u32s M2)]
      (FO (some (q1 - q2))) := by
  have hq2 := g2.qs.neg.mono (b := 5000000) (by decide)
  refine ConF_of Tryd.func58 rfl 9 _ rfl rfl ?_
  intro w0
  refine JC_norm ⟨9, [], [_, _, _, _, _, _, _, _, _]⟩ [] [_, _, _, _] rfl rfl rfl ?_
  refine JC_seq ?_
  refine JC_region ?_
  refine JL_box rfl rfl (fun b2 => ?_)
  refine JL_box rfl rfl (fun b3 => ?_)
  refine JL_alloc z35 (fun b4 => ?_)
  refine JL_done_up 9 [box _ _ [_, _, _], box _ _ [_, _, _], box _ _ [_, _, _]] [_, _, _, _] rfl rfl (by simp only [nrmF]; rfl) rfl rfl ?_
  refine JC_seq ?_
  refine JC_drawT mixed 3 [spV 5 [] _, spV 6 [] _, spC 7 [1] _] ⟨OblS_V (fun vals ex ψ => (by
      refine JL_normQ ⟨9, [(5, _), (6, _), (7, _)], _⟩ (_ :: _ :: _ :: _ :: ψ) rfl rfl ?_
      refine JL_loadA (vs := [_, _, _]) 0 ty35 rfl rfl ⟨rfl, rfl, rfl, trivial⟩ ?_
      exact JL_nil (JE_stepV rfl ss0))), OblS_V (fun vals ex ψ => (by
      refine JL_normQ ⟨9, [(5, _), (6, _), (7, _)], _⟩ (_ :: _ :: _ :: _ :: ψ) rfl rfl ?_
      refine JL_loadA (vs := [_, _, _]) 1 ty35 rfl rfl ⟨rfl, rfl, rfl, trivial⟩ ?_
      exact JL_nil (JE_stepV rfl ss0))), OblS_C (fun vals ex ψ => (by
      refine JL_normQ ⟨9, [(5, _), (6, _), (7, _)], _⟩ (_ :: _ :: _ :: _ :: ψ) rfl rfl ?_
      refine JL_callF' (Asks.cons (holds_of_mem (by repeat (first | with_reducible exact mm0 | refine mmS ?_))) (Asks.cons (holds_of_mem (by repeat (first | with_reducible exact mm0 | refine mmS ?_))) Asks.nil)) (rneg_con (g2.mono (by omega))) rfl ca83 ⟨rfl, rfl⟩ ?_
      exact fun v φo hP => JL_nil (JE_stepC φo rfl hP (fun p hp => mapB_l hp) (fun p hp => mapB_r (ss0 p hp))))), trivial⟩ (by kernel_rfl) (fun vals bs => ?_)
  refine JL_normL [_, _] ⟨9, [(5, _), (6, _), (7, _)], _⟩ [box _ _ [_, _, _], box _ _ [_, _, _], box _ _ [_, _, _]] [_, _, _, _, _] rfl rfl rfl rfl ?_
  generalize vals (0 + 1 + 1) = x7
  refine JL_usePost mm0 (fun φo hP => ?_)
  obtain ⟨ad7, cp7, be7, ce7, rfl, rfl⟩ := hP
  refine JL_norm _ [box _ _ [_, _, _], box _ _ [_, _, _], box _ _ [_, _, _]] [_, _, _, _, _, _, _] rfl rfl rfl ?_
  refine JL_callF' (Asks.cons (holds_of_mem (by repeat (first | with_reducible exact mm0 | refine mmS ?_))) (Asks.cons (holds_of_mem (by repeat (first | with_reducible exact mm0 | refine mmS ?_))) (Asks.cons (holds_of_mem (by repeat (first | with_reducible exact mm0 | refine mmS ?_))) (Asks.cons (holds_of_mem (by repeat (first | with_reducible exact mm0 | refine mmS ?_))) Asks.nil)))) (raddq_con (g1.mono (by omega)) (FIn.some hq2)) rfl ca82 ⟨rfl, rfl, rfl⟩ ?_
  rintro _ _ ⟨ad8, cp8, be8, ce8, rfl, rfl⟩
  refine JL_store (vs := [_, _, _]) 2 ty35 rfl rfl rfl (AllOne.cons rfl (AllOne.cons rfl (AllOne.cons rfl AllOne.nil))) rfl (Nat.le_of_ble_eq_true rfl) ?_
  refine JL_done_up 9 [box _ _ [_, _, _], box _ _ [_, _, _], box _ _ [_, _, _]] [_, _, _, _, _, _, _, _, _] rfl rfl (by simp only [nrmF]; rfl) rfl rfl ?_
  refine JC_ret ?_
  have he : q1 + -q2 = q1 - q2 := (Rat.sub_eq_add_neg _ _).symm
  rw [he]
  refine JE_ret (vs := [_]) [vCells ad8 (u32s (fnum (some (q1 - q2)))), vCells be8 (u32s (fden (some (q1 - q2))))] Tryd.results58 ⟨RV.cell (vs := [_, _, _]) 2 ty35 rfl rfl ⟨rfl, rfl, rfl, trivial⟩, rfl⟩ ?_ ?_
  · exact ⟨ad8, cp8, be8, ce8, rfl, rfl⟩
  · exact (all_cons (by repeat (first | with_reducible exact mm0 | refine mmS ?_)) (all_cons (by repeat (first | with_reducible exact mm0 | refine mmS ?_)) all_nil))

theorem rcmpq_con {s1 : Bool} {ad1 : Option Addr} {n1 c1 : Nat} {L1 : List Nat} {be1 : Option Addr} {m1 e1 : Nat} {M1 : List Nat} {q1 : Rat} (g1 : FIn s1 n1 L1 m1 M1 q1 1000000) {s2 : Bool} {ad2 : Option Addr} {n2 c2 : Nat} {L2 : List Nat} {be2 : Option Addr} {m2 e2 : Nat} {M2 : List Nat} {q2 : Rat} (g2 : FIn s2 n2 L2 m2 M2 q2 1000000) :
    ConF Tryd.prog 35 [.agg #[.bool s1, .slice ad1 n1 c1, .slice be1 m1 e1], .agg #[.bool s2, .slice ad2 n2 c2, .slice be2 m2 e2]] [vCells ad1 (u32s L1), vCells be1 (u32s M1), vCells ad2 (u32s L2), vCells be2 (u32s M2)]
      (fun v φo => v = .int .i64 (cmpQ q1 q2) ∧ φo = []) := by
  have hq := g1.qs.sub g2.qs (c := 10000000) (by decide)
  refine ConF_of Tryd.func35 rfl 9 _ rfl rfl ?_
  intro w0
  refine JC_norm ⟨9, [], [_, _, _, _, _, _, _, _, _]⟩ [] [_, _, _, _] rfl rfl rfl ?_
  refine JC_seq ?_
  refine JC_region ?_
  refine JL_box rfl rfl (fun b2 => ?_)
  refine JL_box rfl rfl (fun b3 => ?_)
  refine JL_assign rfl ?_
  refine JL_done_up 9 [box _ _ [_, _, _], box _ _ [_, _, _]] [_, _, _, _] rfl rfl (by simp only [nrmF]; rfl) rfl rfl ?_
  refine JC_seq ?_
  refine JC_region ?_
  refine JL_loadA (vs := [_, _, _]) 0 ty35 rfl rfl ⟨rfl, rfl, rfl, trivial⟩ ?_
  refine JL_loadA (vs := [_, _, _]) 1 ty35 rfl rfl ⟨rfl, rfl, rfl, trivial⟩ ?_
  refine JL_callF' (Asks.cons (holds_of_mem (by repeat (first | with_reducible exact mm0 | refine mmS ?_))) (Asks.cons (holds_of_mem (by repeat (first | with_reducible exact mm0 | refine mmS ?_))) (Asks.cons (holds_of_mem (by repeat (first | with_reducible exact mm0 | refine mmS ?_))) (Asks.cons (holds_of_mem (by repeat (first | with_reducible exact mm0 | refine mmS ?_))) Asks.nil)))) (rsubq_con (g1.mono (by omega)) (g2.mono (by omega))) rfl ca58 ⟨rfl, rfl, rfl⟩ ?_
  rintro _ _ ⟨ad7, cp7, be7, ce7, rfl, rfl⟩
  refine JL_callF' (Asks.cons (holds_of_mem (by repeat (first | with_reducible exact mm0 | refine mmS ?_))) (Asks.cons (holds_of_mem (by repeat (first | with_reducible exact mm0 | refine mmS ?_))) Asks.nil)) (rsign_con (FIn.some hq)) rfl ca57 ⟨rfl, rfl⟩ ?_
  rintro _ _ ⟨rfl, rfl⟩
  refine JL_assign rfl ?_
  refine JL_done_up 9 [box _ _ [_, _, _], box _ _ [_, _, _]] [_, _, _, _, _, _] rfl rfl (by simp only [nrmF]; rfl) rfl rfl ?_
  refine JC_ret ?_
  refine JE_ret (vs := [_]) [] Tryd.results35 ⟨rfl, rfl⟩ ?_ ?_
  · exact ⟨by rw [cmpQ_sub]; rfl, rfl⟩
  · exact all_nil

end Go.Fw.K
