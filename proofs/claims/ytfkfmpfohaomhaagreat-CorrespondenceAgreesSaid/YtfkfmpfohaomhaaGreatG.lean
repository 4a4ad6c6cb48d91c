/- Walks through functions of the given program: each meets its contract. (Printed by a program of this repo.) -/
import Derived.Test.YtfkfmpfohaomhaaGreatV
import Derived.Test.YtfkfmpfohaomhaaGreatFwC
import Derived.Test.YtfkfmpfohaomhaaGreatProg
namespace Go.Fw.G
open Go Go.RowKit Go.Proofs Go.Nat9 Go.Fw
attribute [local irreducible] JC JL JE
theorem ca46 : callable Tryz.prog 46 = true := by kernel_rfl
theorem ca47 : callable Tryz.prog 47 = true := by kernel_rfl
theorem ca72 : callable Tryz.prog 72 = true := by kernel_rfl
theorem ca73 : callable Tryz.prog 73 = true := by kernel_rfl
theorem ca74 : callable Tryz.prog 74 = true := by kernel_rfl
theorem ca75 : callable Tryz.prog 75 = true := by kernel_rfl
theorem ca76 : callable Tryz.prog 76 = true := by kernel_rfl
theorem ca98 : callable Tryz.prog 98 = true := by kernel_rfl
theorem it115 : intTy Tryz.prog 115 = some .u64 := by kernel_rfl
theorem st27 : stOf Tryz.prog 27 = some ([(0, 1)], [.slice none 0 0]) := by kernel_rfl
theorem st29 : stOf Tryz.prog 29 = some ([(0, 1), (1, 1), (2, 1)], [.bool false, .slice none 0 0, .slice none 0 0]) := by kernel_rfl
theorem ty27 : tyOf Tryz.prog 27 = some (true, 1) := by kernel_rfl
theorem ty29 : tyOf Tryz.prog 29 = some (true, 3) := by kernel_rfl
theorem ub4 : Tryz.prog.underlying 4 = some .bool := by kernel_rfl
theorem us3 : (Tryz.prog.underlying 3).isSome = true := by kernel_rfl
theorem z27 : zeroOf Tryz.prog 27 = some [.slice none 0 0] := by kernel_rfl
theorem z29 : zeroOf Tryz.prog 29 = some [.bool false, .slice none 0 0, .slice none 0 0] := by kernel_rfl
end Go.Fw.G
namespace Go.Fw.K
open Go Go.RowKit Go.Proofs Go.Nat9 Go.Fw Go.Fw.G
attribute [local irreducible] JC JL JE

theorem rzero_con {ad1 : Option Addr} {n1 c1 : Nat} {L1 : List Nat} {x1 : Nat} (g1 : NIn n1 L1 x1 100000000) :
    ConF Tryz.prog 72 [.agg #[.slice ad1 n1 c1]] [vCells ad1 (u32s L1)]
      (fun v φo => v = .bool (decide (x1 = 0)) ∧ φo = []) := by
  refine ConF_of Tryz.func72 rfl 7 _ rfl rfl ?_; intro w0; refine JC_norm ⟨7, [], [_, _, _, _, _, _, _]⟩ [] [_] rfl rfl rfl ?_; refine JC_sr ?_; refine JL_box rfl rfl (fun b1 => ?_); refine JL_assign rfl ?_; refine JL_du 7 [box _ _ [_]] [_] ?_; refine JC_sr ?_; refine JL_loadA (vs := [_]) 0 ty27 rfl rfl ⟨rfl, trivial⟩ ?_; refine JL_build (cs := [_]) [] st27 rfl rfl ?_; refine JL_nilView ?_; refine JL_callF' (Asks.cons (holds_of_mem am) (Asks.cons (holds_of_mem am) Asks.nil)) (rcmp_con _ _ _ _ _ (g1.mono (by omega)) _ _ _ _ _ NIn.nil) rfl ca98 ⟨rfl, rfl, rfl⟩ ?_; rintro _ _ ⟨rfl, rfl⟩; refine JL_eql rfl rfl ?_; refine JL_assign rfl ?_; refine JL_du 7 [box _ _ [_]] [_, _] ?_; refine JC_ret ?_; refine JE_ret (vs := [_]) [] Tryz.results72 ⟨rfl, rfl⟩ ?_ ?_
  · exact ⟨by rw [cmpN_dec]; rfl, rfl⟩
  · exact all_nil

theorem rofn_con (n : Nat) (hn : n < 9223372036854775808) :
    ConF Tryz.prog 73 [.int .i64 (n : Nat)] []
      (LN n) := by
  refine ConF_of Tryz.func73 rfl 6 _ rfl rfl ?_; intro w0; refine JC_norm ⟨6, [], [_, _, _, _, _, _]⟩ [] [] rfl rfl rfl ?_; refine JC_sr ?_; refine JL_alloc z27 (fun b2 => ?_); refine JL_du 6 [box _ _ [_]] [] ?_; refine JC_sr ?_; refine JL_m ?_; refine JL_convInt us3 it115 rfl (IntWalk.u64_in _ (by omega)) ?_; refine JL_callF' Asks.nil (rof_con n (by omega)) rfl ca76 ⟨rfl, rfl⟩ ?_; rintro _ _ ⟨ad5, cap5, rfl, hk5, hm5, rfl⟩; refine JL_store (vs := [_]) 0 ty27 rfl rfl rfl (AllOne.cons rfl AllOne.nil) rfl (Nat.le_of_ble_eq_true rfl) ?_; refine JL_du 6 [box _ _ [_]] [_] ?_; refine JC_ret ?_; refine JE_ret (vs := [_]) [vCells ad5 (u32s (limbsOf (n)))] Tryz.results73 ⟨RV.cell (vs := [_]) 0 ty27 rfl rfl ⟨rfl, trivial⟩, rfl⟩ ?_ ?_
  · exact ⟨ad5, cap5, rfl, hk5, hm5, rfl⟩
  · exact (all_cons am all_nil)

theorem rmag_con {n : Int} (hn : -9223372036854775808 ≤ n ∧ n ≤ 9223372036854775807) :
    ConF Tryz.prog 47 [.int .i64 n] []
      (LN n.natAbs) := by
  refine ConF_of Tryz.func47 rfl 12 _ rfl rfl ?_; intro w0; refine JC_norm ⟨12, [], [_, _, _, _, _, _, _, _, _, _, _, _]⟩ [] [] rfl rfl rfl ?_; refine JC_sr ?_; refine JL_alloc z27 (fun b2 => ?_); refine JL_du 12 [box _ _ [_]] [] ?_; refine JC_seq ?_; refine JC_sr ?_; refine JL_m ?_; refine JL_lss rfl rfl ?_; refine JL_split (fun h4 => ?_) (fun h4 => ?_)
  · refine JL_du 12 [box _ _ [_]] [] ?_; refine JC_true rfl ?_; refine JC_sr ?_; refine JL_m ?_; refine JL_convInt us3 it115 rfl (u64_neg1 n h4 hn.1) ?_; refine JL_neg_to rfl (u64_neg2 n h4 hn.1) ?_; refine JL_callF' Asks.nil (rof_con n.natAbs (by omega)) rfl ca76 ⟨rfl, rfl⟩ ?_; rintro _ _ ⟨ad8, cap8, rfl, hk8, hm8, rfl⟩; refine JL_store (vs := [_]) 0 ty27 rfl rfl rfl (AllOne.cons rfl AllOne.nil) rfl (Nat.le_of_ble_eq_true rfl) ?_; refine JL_du 12 [box _ _ [_]] [_] ?_; refine JC_ret ?_; refine JE_then_ret ?_; refine JE_ret (vs := [_]) [vCells ad8 (u32s (limbsOf (n.natAbs)))] Tryz.results47 ⟨RV.cell (vs := [_]) 0 ty27 rfl rfl ⟨rfl, trivial⟩, rfl⟩ ?_ ?_
    · exact ⟨ad8, cap8, rfl, hk8, hm8, rfl⟩
    · exact (all_cons am all_nil)
  · refine JL_du 12 [box _ _ [_]] [] ?_; refine JC_false rfl ?_; refine JC_skip ?_; refine JE_then ?_; refine JC_sr ?_; refine JL_m ?_; refine JL_convInt us3 it115 rfl ((IntWalk.u64_in n (by omega)).trans (show n = ((n.natAbs : Nat) : Int) from by omega)) ?_; refine JL_callF' Asks.nil (rof_con n.natAbs (by omega)) rfl ca76 ⟨rfl, rfl⟩ ?_; rintro _ _ ⟨ad11, cap11, rfl, hk11, hm11, rfl⟩; refine JL_store (vs := [_]) 0 ty27 rfl rfl rfl (AllOne.cons rfl AllOne.nil) rfl (Nat.le_of_ble_eq_true rfl) ?_; refine JL_du 12 [box _ _ [_]] [_] ?_; refine JC_ret ?_; refine JE_ret (vs := [_]) [vCells ad11 (u32s (limbsOf (n.natAbs)))] Tryz.results47 ⟨RV.cell (vs := [_]) 0 ty27 rfl rfl ⟨rfl, trivial⟩, rfl⟩ ?_ ?_
    · exact ⟨ad11, cap11, rfl, hk11, hm11, rfl⟩
    · exact (all_cons am all_nil)

theorem rmade_con {s : Bool} {ad1 : Option Addr} {n1 c1 : Nat} {L1 : List Nat} {x1 : Nat} (g1 : NIn n1 L1 x1 50000000) {ad2 : Option Addr} {n2 c2 : Nat} {L2 : List Nat} {x2 : Nat} (g2 : NIn n2 L2 x2 50000000) {q : Rat} (hq : mkq s x1 x2 = q) :
    ConF Tryz.prog 46 [.bool s, .agg #[.slice ad1 n1 c1], .agg #[.slice ad2 n2 c2]] [vCells ad1 (u32s L1), vCells ad2 (u32s L2)]
      (FO (some q)) := by
  have hs1 := g1.sz
  have hl1 := g1.le
  have hs2 := g2.sz
  have hl2 := g2.le
  refine ConF_of Tryz.func46 rfl 43 _ rfl rfl ?_; intro w0; refine JC_norm ⟨43, [], [_, _, _, _, _, _, _, _, _, _, _, _, _, _, _, _, _, _, _, _, _, _, _, _, _, _, _, _, _, _, _, _, _, _, _, _, _, _, _, _, _, _, _]⟩ [] [_, _] rfl rfl rfl ?_; refine JC_sr ?_; refine JL_box rfl rfl (fun b4 => ?_); refine JL_box rfl rfl (fun b5 => ?_); refine JL_alloc z29 (fun b6 => ?_); refine JL_du 43 [box _ _ [_], box _ _ [_], box _ _ [_, _, _]] [_, _] ?_; refine JC_seq ?_; refine JC_sr ?_; refine JL_loadA (vs := [_]) 0 ty27 rfl rfl ⟨rfl, trivial⟩ ?_; refine JL_callF' (Asks.cons (holds_of_mem am) Asks.nil) (rzero_con (g1.mono (by omega))) rfl ca72 ⟨rfl, rfl⟩ ?_; rintro _ _ ⟨rfl, rfl⟩; refine JL_split (fun h15 => ?_) (fun h15 => ?_)
  · refine JL_m ?_; refine JL_gn ?_; refine JL_gn ?_; refine JL_pick_t rfl rfl ?_; refine JL_du 43 [box _ _ [_], box _ _ [_], box _ _ [_, _, _]] [_, _] ?_; refine JC_true rfl ?_; refine JC_sr ?_; refine JL_callF' Asks.nil (rofn_con 1 (by omega)) rfl ca73 ⟨rfl, rfl⟩ ?_; rintro _ _ ⟨ad20, cap20, rfl, hk20, hm20, rfl⟩; refine JL_build (cs := [_, _, _]) [(2, [_])] st29 ⟨⟨rfl, _, rfl, rfl⟩, rfl⟩ rfl ?_; refine JL_store (vs := [_, _, _]) 2 ty29 rfl rfl rfl (AllOne.cons rfl (AllOne.cons rfl (AllOne.cons rfl AllOne.nil))) rfl (Nat.le_of_ble_eq_true rfl) ?_; refine JL_du 43 [box _ _ [_], box _ _ [_], box _ _ [_, _, _]] [_, _, _] ?_; refine JC_ret ?_; refine JE_then_ret ?_
    have hq0 : q = 0 := by rw [← hq]; exact some_mkq0 (by omega)
    subst hq0; refine JE_nilView ?_; refine JE_ret (vs := [_]) [vCells none (u32s []), vCells ad20 (u32s (limbsOf (1)))] Tryz.results46 ⟨RV.cell (vs := [_, _, _]) 2 ty29 rfl rfl ⟨rfl, rfl, rfl, trivial⟩, rfl⟩ ?_ ?_
    · exact ⟨none, 0, ad20, cap20, by rw [fneg_zero, fnum_zero, fden_zero]; rfl, by rw [fnum_zero, fden_zero]⟩
    · exact (all_cons am (all_cons am all_nil))
  · refine JL_m ?_; refine JL_gy ?_; refine JL_loadA (vs := [_]) 1 ty27 rfl rfl ⟨rfl, trivial⟩ ?_; refine JL_gy ?_; refine JL_callF' (Asks.cons (holds_of_mem am) Asks.nil) (rzero_con (g2.mono (by omega))) rfl ca72 ⟨rfl, rfl⟩ ?_; rintro _ _ ⟨rfl, rfl⟩; refine JL_split (fun h18 => ?_) (fun h18 => ?_)
    · refine JL_pick_f rfl rfl ?_; refine JL_du 43 [box _ _ [_], box _ _ [_], box _ _ [_, _, _]] [_, _] ?_; refine JC_true rfl ?_; refine JC_sr ?_; refine JL_callF' Asks.nil (rofn_con 1 (by omega)) rfl ca73 ⟨rfl, rfl⟩ ?_; rintro _ _ ⟨ad20, cap20, rfl, hk20, hm20, rfl⟩; refine JL_build (cs := [_, _, _]) [(2, [_])] st29 ⟨⟨rfl, _, rfl, rfl⟩, rfl⟩ rfl ?_; refine JL_store (vs := [_, _, _]) 2 ty29 rfl rfl rfl (AllOne.cons rfl (AllOne.cons rfl (AllOne.cons rfl AllOne.nil))) rfl (Nat.le_of_ble_eq_true rfl) ?_; refine JL_du 43 [box _ _ [_], box _ _ [_], box _ _ [_, _, _]] [_, _, _] ?_; refine JC_ret ?_; refine JE_then_ret ?_
      have hq0 : q = 0 := by rw [← hq]; exact some_mkq0 (by omega)
      subst hq0; refine JE_nilView ?_; refine JE_ret (vs := [_]) [vCells none (u32s []), vCells ad20 (u32s (limbsOf (1)))] Tryz.results46 ⟨RV.cell (vs := [_, _, _]) 2 ty29 rfl rfl ⟨rfl, rfl, rfl, trivial⟩, rfl⟩ ?_ ?_
      · exact ⟨none, 0, ad20, cap20, by rw [fneg_zero, fnum_zero, fden_zero]; rfl, by rw [fnum_zero, fden_zero]⟩
      · exact (all_cons am (all_cons am all_nil))
    · refine JL_pick_f rfl rfl ?_; refine JL_du 43 [box _ _ [_], box _ _ [_], box _ _ [_, _, _]] [_, _] ?_; refine JC_false rfl ?_; refine JC_skip ?_; refine JE_then ?_; refine JC_sr ?_; refine JL_loadA (vs := [_]) 0 ty27 rfl rfl ⟨rfl, trivial⟩ ?_; refine JL_loadA (vs := [_]) 1 ty27 rfl rfl ⟨rfl, trivial⟩ ?_
      have hx : 0 < x1 := by omega
      have hy : 0 < x2 := by omega
      have hgp : 0 < Nat.gcd x1 x2 := Nat.gcd_pos_of_pos_left _ hx
      have hgl := len_limbsOf_le (Nat.gcd_le_left x2 hx)
      have hM := some_mkq (s := s) hx hy
      rw [hq] at hM; refine JL_callF' (Asks.cons (holds_of_mem am) (Asks.cons (holds_of_mem am) Asks.nil)) (rgcd_con _ _ _ _ _ (g1.mono (by omega)) _ _ _ _ _ (g2.mono (by omega))) rfl ca74 ⟨rfl, rfl, rfl⟩ ?_; rintro _ _ ⟨ad24, cap24, rfl, hk24, hm24, rfl⟩; refine JL_alloc z27 (fun b7 => ?_); refine JL_store (vs := [_]) 3 ty27 rfl rfl rfl (AllOne.cons rfl AllOne.nil) rfl (Nat.le_of_ble_eq_true rfl) ?_; refine JL_du 43 [box _ _ [_], box _ _ [_], box _ _ [_, _, _], box _ _ [_]] [_, _, _] ?_; refine JC_sr ?_; refine JL_loadA (vs := [_]) 0 ty27 rfl rfl ⟨rfl, trivial⟩ ?_; refine JL_loadA (vs := [_]) 3 ty27 rfl rfl ⟨rfl, trivial⟩ ?_; refine JL_callF' (Asks.cons (holds_of_mem am) (Asks.cons (holds_of_mem am) Asks.nil)) (rdivmod_con _ _ _ _ _ (g1.mono (by omega)) _ _ _ _ _ (NIn.of (by omega)) hgp) rfl ca75 ⟨rfl, rfl, rfl⟩ ?_; rintro _ _ ⟨ad28, cap28, ae28, caq28, rfl, hk28, hm28, hkq28, hmq28, rfl⟩; refine JL_m ?_; refine JL_extract rfl rfl ?_; refine JL_extract rfl rfl ?_; refine JL_extract rfl rfl ?_; refine JL_alloc z27 (fun b8 => ?_); refine JL_alloc z27 (fun b9 => ?_)
      refine JL_store (vs := [_]) 4 ty27 rfl rfl rfl (AllOne.cons rfl AllOne.nil) rfl (Nat.le_of_ble_eq_true rfl) ?_; refine JL_store (vs := [_]) 5 ty27 rfl rfl rfl (AllOne.cons rfl AllOne.nil) rfl (Nat.le_of_ble_eq_true rfl) ?_; refine JL_assign rfl ?_; refine JL_du 43 [box _ _ [_], box _ _ [_], box _ _ [_, _, _], box _ _ [_], box _ _ [_], box _ _ [_]] [_, _, _, _, _] ?_; refine JC_sr ?_; refine JL_loadA (vs := [_]) 1 ty27 rfl rfl ⟨rfl, trivial⟩ ?_; refine JL_loadA (vs := [_]) 3 ty27 rfl rfl ⟨rfl, trivial⟩ ?_; refine JL_callF' (Asks.cons (holds_of_mem am) (Asks.cons (holds_of_mem am) Asks.nil)) (rdivmod_con _ _ _ _ _ (g2.mono (by omega)) _ _ _ _ _ (NIn.of (by omega)) hgp) rfl ca75 ⟨rfl, rfl, rfl⟩ ?_; rintro _ _ ⟨ad35, cap35, ae35, caq35, rfl, hk35, hm35, hkq35, hmq35, rfl⟩; refine JL_m ?_; refine JL_extract rfl rfl ?_; refine JL_extract rfl rfl ?_; refine JL_extract rfl rfl ?_; refine JL_alloc z27 (fun b11 => ?_); refine JL_alloc z27 (fun b12 => ?_); refine JL_store (vs := [_]) 6 ty27 rfl rfl rfl (AllOne.cons rfl AllOne.nil) rfl (Nat.le_of_ble_eq_true rfl) ?_
      refine JL_store (vs := [_]) 7 ty27 rfl rfl rfl (AllOne.cons rfl AllOne.nil) rfl (Nat.le_of_ble_eq_true rfl) ?_; refine JL_assign rfl ?_; refine JL_du 43 [box _ _ [_], box _ _ [_], box _ _ [_, _, _], box _ _ [_], box _ _ [_], box _ _ [_], box _ _ [_], box _ _ [_]] [_, _, _, _, _, _, _] ?_; refine JC_sr ?_; refine JL_m ?_; refine JL_loadA (vs := [_]) 4 ty27 rfl rfl ⟨rfl, trivial⟩ ?_; refine JL_loadA (vs := [_]) 6 ty27 rfl rfl ⟨rfl, trivial⟩ ?_; refine JL_build (cs := [_, _, _]) [(0, [_]), (1, [_]), (2, [_])] st29 ⟨⟨rfl, _, rfl, rfl⟩, ⟨rfl, _, rfl, rfl⟩, ⟨rfl, _, rfl, rfl⟩, rfl⟩ rfl ?_; refine JL_store (vs := [_, _, _]) 2 ty29 rfl rfl rfl (AllOne.cons rfl (AllOne.cons rfl (AllOne.cons rfl AllOne.nil))) rfl (Nat.le_of_ble_eq_true rfl) ?_; refine JL_du 43 [box _ _ [_], box _ _ [_], box _ _ [_, _, _], box _ _ [_], box _ _ [_], box _ _ [_], box _ _ [_], box _ _ [_]] [_, _, _, _, _, _, _] ?_; refine JC_ret ?_; refine JE_ret (vs := [_]) [vCells ad28 (u32s (limbsOf (x1 / Nat.gcd x1 x2))), vCells ad35 (u32s (limbsOf (x2 / Nat.gcd x1 x2)))] Tryz.results46 ⟨RV.cell (vs := [_, _, _]) 2 ty29 rfl rfl ⟨rfl, rfl, rfl, trivial⟩, rfl⟩ ?_ ?_
      · exact ⟨ad28, cap28, ad35, cap35, by rw [hM.1, hM.2.1, hM.2.2]; rfl, by rw [hM.2.1, hM.2.2]⟩
      · exact (all_cons am (all_cons am all_nil))

theorem rofi_con (n d : Int) (hn : -9223372036854775808 ≤ n ∧ n ≤ 9223372036854775807) (hn2 : -9223372036854775808 ≤ d ∧ d ≤ 9223372036854775807) :
    ConF Tryz.prog 25 [.int .i64 n, .int .i64 d] []
      (FO (some (ofq n d))) := by
  have h1 : (limbsOf n.natAbs).length ≤ 3 := limbsOf_len_of_lt (by omega)
  have h2 : (limbsOf d.natAbs).length ≤ 3 := limbsOf_len_of_lt (by omega)
  refine ConF_of Tryz.func25 rfl 15 _ rfl rfl ?_; intro w0; refine JC_norm ⟨15, [], [_, _, _, _, _, _, _, _, _, _, _, _, _, _, _]⟩ [] [] rfl rfl rfl ?_; refine JC_sr ?_; refine JL_alloc z29 (fun b4 => ?_); refine JL_du 15 [box _ _ [_, _, _]] [] ?_; refine JC_sr ?_; refine JL_m ?_; refine JL_lss rfl rfl ?_; refine JL_m ?_; refine JL_lss rfl rfl ?_; refine JL_neqB ub4 rfl rfl ?_; refine JL_m ?_; refine JL_callF' Asks.nil (rmag_con hn) rfl ca47 ⟨rfl, rfl⟩ ?_; rintro _ _ ⟨ad11, cap11, rfl, hk11, hm11, rfl⟩; refine JL_m ?_; refine JL_callF' Asks.nil (rmag_con hn2) rfl ca47 ⟨rfl, rfl⟩ ?_; rintro _ _ ⟨ad13, cap13, rfl, hk13, hm13, rfl⟩; refine JL_callF' (Asks.cons (holds_of_mem am) (Asks.cons (holds_of_mem am) Asks.nil)) (rmade_con (q := ofq n d) (NIn.of (by omega)) (NIn.of (by omega)) rfl) rfl ca46 ⟨rfl, rfl, rfl, rfl⟩ ?_; rintro _ _ ⟨ad14, cp14, be14, ce14, rfl, rfl⟩; refine JL_store (vs := [_, _, _]) 0 ty29 rfl rfl rfl (AllOne.cons rfl (AllOne.cons rfl (AllOne.cons rfl AllOne.nil))) rfl (Nat.le_of_ble_eq_true rfl) ?_; refine JL_du 15 [box _ _ [_, _, _]] [_, _, _, _] ?_; refine JC_ret ?_
  refine JE_ret (vs := [_]) [vCells ad14 (u32s (fnum (some (ofq n d)))), vCells be14 (u32s (fden (some (ofq n d))))] Tryz.results25 ⟨RV.cell (vs := [_, _, _]) 0 ty29 rfl rfl ⟨rfl, rfl, rfl, trivial⟩, rfl⟩ ?_ ?_
  · exact ⟨ad14, cp14, be14, ce14, rfl, rfl⟩
  · exact (all_cons am (all_cons am all_nil))

end Go.Fw.K
