/- Walks through functions of the given program: each meets its contract. (Printed by a program of this repo.) -/
import Derived.Test.YtfkfmpfohaomhaaW
import Derived.Test.YtfkfmpfohaomhaaFwC
import Derived.Test.YtfkfmpfohaomhaaProg
namespace Go.Fw.F
open Go Go.RowKit Go.Proofs Go.Nat9 Go.Fw
attribute [local irreducible] JC JL JE
theorem ca65 : callable Try.prog 65 = true := by kernel_rfl
theorem ca66 : callable Try.prog 66 = true := by kernel_rfl
theorem ca86 : callable Try.prog 86 = true := by kernel_rfl
theorem ca87 : callable Try.prog 87 = true := by kernel_rfl
theorem ca88 : callable Try.prog 88 = true := by kernel_rfl
theorem ca89 : callable Try.prog 89 = true := by kernel_rfl
theorem ca99 : callable Try.prog 99 = true := by kernel_rfl
theorem it123 : intTy Try.prog 123 = some .u64 := by kernel_rfl
theorem st51 : stOf Try.prog 51 = some ([(0, 1)], [.slice none 0 0]) := by kernel_rfl
theorem st53 : stOf Try.prog 53 = some ([(0, 1), (1, 1), (2, 1)], [.bool false, .slice none 0 0, .slice none 0 0]) := by kernel_rfl
theorem ty51 : tyOf Try.prog 51 = some (true, 1) := by kernel_rfl
theorem ty53 : tyOf Try.prog 53 = some (true, 3) := by kernel_rfl
theorem ub4 : Try.prog.underlying 4 = some .bool := by kernel_rfl
theorem us3 : (Try.prog.underlying 3).isSome = true := by kernel_rfl
theorem z51 : zeroOf Try.prog 51 = some [.slice none 0 0] := by kernel_rfl
theorem z53 : zeroOf Try.prog 53 = some [.bool false, .slice none 0 0, .slice none 0 0] := by kernel_rfl
end Go.Fw.F
namespace Go.Fw.K
open Go Go.RowKit Go.Proofs Go.Nat9 Go.Fw Go.Fw.F
attribute [local irreducible] JC JL JE

theorem fzero_con {ad1 : Option Addr} {n1 c1 : Nat} {L1 : List Nat} {x1 : Nat} (g1 : NIn n1 L1 x1 100000000) :
    ConF Try.prog 86 [.agg #[.slice ad1 n1 c1]] [vCells ad1 (u32s L1)]
      (fun v φo => v = .bool (decide (x1 = 0)) ∧ φo = []) := by
  refine ConF_of Try.func86 rfl 7 _ rfl rfl ?_; intro w0; refine JC_norm ⟨7, [], [_, _, _, _, _, _, _]⟩ [] [_] rfl rfl rfl ?_; refine JC_sr ?_; refine JL_box rfl rfl (fun b1 => ?_); refine JL_assign rfl ?_; refine JL_du 7 [box _ _ [_]] [_] ?_; refine JC_sr ?_; refine JL_loadA (vs := [_]) 0 ty51 rfl rfl ⟨rfl, trivial⟩ ?_; refine JL_build (cs := [_]) [] st51 rfl rfl ?_; refine JL_nilView ?_; refine JL_callF' (Asks.cons (holds_of_mem am) (Asks.cons (holds_of_mem am) Asks.nil)) (nat_cmp_con _ _ _ _ _ (g1.mono (by omega)) _ _ _ _ _ NIn.nil) rfl ca99 ⟨rfl, rfl, rfl⟩ ?_; rintro _ _ ⟨rfl, rfl⟩; refine JL_eql rfl rfl ?_; refine JL_assign rfl ?_; refine JL_du 7 [box _ _ [_]] [_, _] ?_; refine JC_ret ?_; refine JE_ret (vs := [_]) [] Try.results86 ⟨rfl, rfl⟩ ?_ ?_
  · exact ⟨by rw [cmpN_dec]; rfl, rfl⟩
  · exact all_nil

theorem fmag_con {n : Int} (hn : -9223372036854775808 ≤ n ∧ n ≤ 9223372036854775807) :
    ConF Try.prog 66 [.int .i64 n] []
      (LN n.natAbs) := by
  refine ConF_of Try.func66 rfl 12 _ rfl rfl ?_; intro w0; refine JC_norm ⟨12, [], [_, _, _, _, _, _, _, _, _, _, _, _]⟩ [] [] rfl rfl rfl ?_; refine JC_sr ?_; refine JL_alloc z51 (fun b2 => ?_); refine JL_du 12 [box _ _ [_]] [] ?_; refine JC_seq ?_; refine JC_sr ?_; refine JL_m ?_; refine JL_lss rfl rfl ?_; refine JL_split (fun h4 => ?_) (fun h4 => ?_)
  · refine JL_du 12 [box _ _ [_]] [] ?_; refine JC_true rfl ?_; refine JC_sr ?_; refine JL_m ?_; refine JL_convInt us3 it123 rfl (u64_neg1 n h4 hn.1) ?_; refine JL_neg_to rfl (u64_neg2 n h4 hn.1) ?_; refine JL_callF' Asks.nil (nat_of_con n.natAbs (by omega)) rfl ca87 ⟨rfl, rfl⟩ ?_; rintro _ _ ⟨ad8, cap8, rfl, hk8, hm8, rfl⟩; refine JL_store (vs := [_]) 0 ty51 rfl rfl rfl (AllOne.cons rfl AllOne.nil) rfl (Nat.le_of_ble_eq_true rfl) ?_; refine JL_du 12 [box _ _ [_]] [_] ?_; refine JC_ret ?_; refine JE_then_ret ?_; refine JE_ret (vs := [_]) [vCells ad8 (u32s (limbsOf (n.natAbs)))] Try.results66 ⟨RV.cell (vs := [_]) 0 ty51 rfl rfl ⟨rfl, trivial⟩, rfl⟩ ?_ ?_
    · exact ⟨ad8, cap8, rfl, hk8, hm8, rfl⟩
    · exact (all_cons am all_nil)
  · refine JL_du 12 [box _ _ [_]] [] ?_; refine JC_false rfl ?_; refine JC_skip ?_; refine JE_then ?_; refine JC_sr ?_; refine JL_m ?_; refine JL_convInt us3 it123 rfl ((IntWalk.u64_in n (by omega)).trans (show n = ((n.natAbs : Nat) : Int) from by omega)) ?_; refine JL_callF' Asks.nil (nat_of_con n.natAbs (by omega)) rfl ca87 ⟨rfl, rfl⟩ ?_; rintro _ _ ⟨ad11, cap11, rfl, hk11, hm11, rfl⟩; refine JL_store (vs := [_]) 0 ty51 rfl rfl rfl (AllOne.cons rfl AllOne.nil) rfl (Nat.le_of_ble_eq_true rfl) ?_; refine JL_du 12 [box _ _ [_]] [_] ?_; refine JC_ret ?_; refine JE_ret (vs := [_]) [vCells ad11 (u32s (limbsOf (n.natAbs)))] Try.results66 ⟨RV.cell (vs := [_]) 0 ty51 rfl rfl ⟨rfl, trivial⟩, rfl⟩ ?_ ?_
    · exact ⟨ad11, cap11, rfl, hk11, hm11, rfl⟩
    · exact (all_cons am all_nil)

theorem fmade_con {s : Bool} {ad1 : Option Addr} {n1 c1 : Nat} {L1 : List Nat} {x1 : Nat} (g1 : NIn n1 L1 x1 50000000) {ad2 : Option Addr} {n2 c2 : Nat} {L2 : List Nat} {x2 : Nat} (g2 : NIn n2 L2 x2 50000000) {q : Rat} (hq : mkq s x1 x2 = q) :
    ConF Try.prog 65 [.bool s, .agg #[.slice ad1 n1 c1], .agg #[.slice ad2 n2 c2]] [vCells ad1 (u32s L1), vCells ad2 (u32s L2)]
      (FO (some q)) := by
  have hs1 := g1.sz
  have hl1 := g1.le
  have hs2 := g2.sz
  have hl2 := g2.le
  refine ConF_of Try.func65 rfl 43 _ rfl rfl ?_; intro w0; refine JC_norm ⟨43, [], [_, _, _, _, _, _, _, _, _, _, _, _, _, _, _, _, _, _, _, _, _, _, _, _, _, _, _, _, _, _, _, _, _, _, _, _, _, _, _, _, _, _, _]⟩ [] [_, _] rfl rfl rfl ?_; refine JC_sr ?_; refine JL_box rfl rfl (fun b4 => ?_); refine JL_box rfl rfl (fun b5 => ?_); refine JL_alloc z53 (fun b6 => ?_); refine JL_du 43 [box _ _ [_], box _ _ [_], box _ _ [_, _, _]] [_, _] ?_; refine JC_seq ?_; refine JC_sr ?_; refine JL_loadA (vs := [_]) 0 ty51 rfl rfl ⟨rfl, trivial⟩ ?_; refine JL_callF' (Asks.cons (holds_of_mem am) Asks.nil) (fzero_con (g1.mono (by omega))) rfl ca86 ⟨rfl, rfl⟩ ?_; rintro _ _ ⟨rfl, rfl⟩; refine JL_split (fun h15 => ?_) (fun h15 => ?_)
  · refine JL_m ?_; refine JL_gn ?_; refine JL_gn ?_; refine JL_pick_t rfl rfl ?_; refine JL_du 43 [box _ _ [_], box _ _ [_], box _ _ [_, _, _]] [_, _] ?_; refine JC_true rfl ?_; refine JC_sr ?_; refine JL_callF' Asks.nil (nat_of_con 1 (by omega)) rfl ca87 ⟨rfl, rfl⟩ ?_; rintro _ _ ⟨ad20, cap20, rfl, hk20, hm20, rfl⟩; refine JL_build (cs := [_, _, _]) [(2, [_])] st53 ⟨⟨rfl, _, rfl, rfl⟩, rfl⟩ rfl ?_; refine JL_store (vs := [_, _, _]) 2 ty53 rfl rfl rfl (AllOne.cons rfl (AllOne.cons rfl (AllOne.cons rfl AllOne.nil))) rfl (Nat.le_of_ble_eq_true rfl) ?_; refine JL_du 43 [box _ _ [_], box _ _ [_], box _ _ [_, _, _]] [_, _, _] ?_; refine JC_ret ?_; refine JE_then_ret ?_
    have hq0 : q = 0 := by rw [← hq]; exact some_mkq0 (by omega)
    subst hq0; refine JE_nilView ?_; refine JE_ret (vs := [_]) [vCells none (u32s []), vCells ad20 (u32s (limbsOf (1)))] Try.results65 ⟨RV.cell (vs := [_, _, _]) 2 ty53 rfl rfl ⟨rfl, rfl, rfl, trivial⟩, rfl⟩ ?_ ?_
    · exact ⟨none, 0, ad20, cap20, by rw [fneg_zero, fnum_zero, fden_zero]; rfl, by rw [fnum_zero, fden_zero]⟩
    · exact (all_cons am (all_cons am all_nil))
  · refine JL_m ?_; refine JL_gy ?_; refine JL_loadA (vs := [_]) 1 ty51 rfl rfl ⟨rfl, trivial⟩ ?_; refine JL_gy ?_; refine JL_callF' (Asks.cons (holds_of_mem am) Asks.nil) (fzero_con (g2.mono (by omega))) rfl ca86 ⟨rfl, rfl⟩ ?_; rintro _ _ ⟨rfl, rfl⟩; refine JL_split (fun h18 => ?_) (fun h18 => ?_)
    · refine JL_pick_f rfl rfl ?_; refine JL_du 43 [box _ _ [_], box _ _ [_], box _ _ [_, _, _]] [_, _] ?_; refine JC_true rfl ?_; refine JC_sr ?_; refine JL_callF' Asks.nil (nat_of_con 1 (by omega)) rfl ca87 ⟨rfl, rfl⟩ ?_; rintro _ _ ⟨ad20, cap20, rfl, hk20, hm20, rfl⟩; refine JL_build (cs := [_, _, _]) [(2, [_])] st53 ⟨⟨rfl, _, rfl, rfl⟩, rfl⟩ rfl ?_; refine JL_store (vs := [_, _, _]) 2 ty53 rfl rfl rfl (AllOne.cons rfl (AllOne.cons rfl (AllOne.cons rfl AllOne.nil))) rfl (Nat.le_of_ble_eq_true rfl) ?_; refine JL_du 43 [box _ _ [_], box _ _ [_], box _ _ [_, _, _]] [_, _, _] ?_; refine JC_ret ?_; refine JE_then_ret ?_
      have hq0 : q = 0 := by rw [← hq]; exact some_mkq0 (by omega)
      subst hq0; refine JE_nilView ?_; refine JE_ret (vs := [_]) [vCells none (u32s []), vCells ad20 (u32s (limbsOf (1)))] Try.results65 ⟨RV.cell (vs := [_, _, _]) 2 ty53 rfl rfl ⟨rfl, rfl, rfl, trivial⟩, rfl⟩ ?_ ?_
      · exact ⟨none, 0, ad20, cap20, by rw [fneg_zero, fnum_zero, fden_zero]; rfl, by rw [fnum_zero, fden_zero]⟩
      · exact (all_cons am (all_cons am all_nil))
    · refine JL_pick_f rfl rfl ?_; refine JL_du 43 [box _ _ [_], box _ _ [_], box _ _ [_, _, _]] [_, _] ?_; refine JC_false rfl ?_; refine JC_skip ?_; refine JE_then ?_; refine JC_sr ?_; refine JL_loadA (vs := [_]) 0 ty51 rfl rfl ⟨rfl, trivial⟩ ?_; refine JL_loadA (vs := [_]) 1 ty51 rfl rfl ⟨rfl, trivial⟩ ?_
      have hx : 0 < x1 := by omega
      have hy : 0 < x2 := by omega
      have hgp : 0 < Nat.gcd x1 x2 := Nat.gcd_pos_of_pos_left _ hx
      have hgl := len_limbsOf_le (Nat.gcd_le_left x2 hx)
      have hM := some_mkq (s := s) hx hy
      rw [hq] at hM; refine JL_callF' (Asks.cons (holds_of_mem am) (Asks.cons (holds_of_mem am) Asks.nil)) (nat_gcd_con _ _ _ _ _ (g1.mono (by omega)) _ _ _ _ _ (g2.mono (by omega))) rfl ca88 ⟨rfl, rfl, rfl⟩ ?_; rintro _ _ ⟨ad24, cap24, rfl, hk24, hm24, rfl⟩; refine JL_alloc z51 (fun b7 => ?_); refine JL_store (vs := [_]) 3 ty51 rfl rfl rfl (AllOne.cons rfl AllOne.nil) rfl (Nat.le_of_ble_eq_true rfl) ?_; refine JL_du 43 [box _ _ [_], box _ _ [_], box _ _ [_, _, _], box _ _ [_]] [_, _, _] ?_; refine JC_sr ?_; refine JL_loadA (vs := [_]) 0 ty51 rfl rfl ⟨rfl, trivial⟩ ?_; refine JL_loadA (vs := [_]) 3 ty51 rfl rfl ⟨rfl, trivial⟩ ?_; refine JL_callF' (Asks.cons (holds_of_mem am) (Asks.cons (holds_of_mem am) Asks.nil)) (nat_divmod_con _ _ _ _ _ (g1.mono (by omega)) _ _ _ _ _ (NIn.of (by omega)) hgp) rfl ca89 ⟨rfl, rfl, rfl⟩ ?_; rintro _ _ ⟨ad28, cap28, ae28, caq28, rfl, hk28, hm28, hkq28, hmq28, rfl⟩; refine JL_m ?_; refine JL_extract rfl rfl ?_; refine JL_extract rfl rfl ?_; refine JL_extract rfl rfl ?_; refine JL_alloc z51 (fun b8 => ?_); refine JL_alloc z51 (fun b9 => ?_)
      refine JL_store (vs := [_]) 4 ty51 rfl rfl rfl (AllOne.cons rfl AllOne.nil) rfl (Nat.le_of_ble_eq_true rfl) ?_; refine JL_store (vs := [_]) 5 ty51 rfl rfl rfl (AllOne.cons rfl AllOne.nil) rfl (Nat.le_of_ble_eq_true rfl) ?_; refine JL_assign rfl ?_; refine JL_du 43 [box _ _ [_], box _ _ [_], box _ _ [_, _, _], box _ _ [_], box _ _ [_], box _ _ [_]] [_, _, _, _, _] ?_; refine JC_sr ?_; refine JL_loadA (vs := [_]) 1 ty51 rfl rfl ⟨rfl, trivial⟩ ?_; refine JL_loadA (vs := [_]) 3 ty51 rfl rfl ⟨rfl, trivial⟩ ?_; refine JL_callF' (Asks.cons (holds_of_mem am) (Asks.cons (holds_of_mem am) Asks.nil)) (nat_divmod_con _ _ _ _ _ (g2.mono (by omega)) _ _ _ _ _ (NIn.of (by omega)) hgp) rfl ca89 ⟨rfl, rfl, rfl⟩ ?_; rintro _ _ ⟨ad35, cap35, ae35, caq35, rfl, hk35, hm35, hkq35, hmq35, rfl⟩; refine JL_m ?_; refine JL_extract rfl rfl ?_; refine JL_extract rfl rfl ?_; refine JL_extract rfl rfl ?_; refine JL_alloc z51 (fun b11 => ?_); refine JL_alloc z51 (fun b12 => ?_); refine JL_store (vs := [_]) 6 ty51 rfl rfl rfl (AllOne.cons rfl AllOne.nil) rfl (Nat.le_of_ble_eq_true rfl) ?_
      refine JL_store (vs := [_]) 7 ty51 rfl rfl rfl (AllOne.cons rfl AllOne.nil) rfl (Nat.le_of_ble_eq_true rfl) ?_; refine JL_assign rfl ?_; refine JL_du 43 [box _ _ [_], box _ _ [_], box _ _ [_, _, _], box _ _ [_], box _ _ [_], box _ _ [_], box _ _ [_], box _ _ [_]] [_, _, _, _, _, _, _] ?_; refine JC_sr ?_; refine JL_m ?_; refine JL_loadA (vs := [_]) 4 ty51 rfl rfl ⟨rfl, trivial⟩ ?_; refine JL_loadA (vs := [_]) 6 ty51 rfl rfl ⟨rfl, trivial⟩ ?_; refine JL_build (cs := [_, _, _]) [(0, [_]), (1, [_]), (2, [_])] st53 ⟨⟨rfl, _, rfl, rfl⟩, ⟨rfl, _, rfl, rfl⟩, ⟨rfl, _, rfl, rfl⟩, rfl⟩ rfl ?_; refine JL_store (vs := [_, _, _]) 2 ty53 rfl rfl rfl (AllOne.cons rfl (AllOne.cons rfl (AllOne.cons rfl AllOne.nil))) rfl (Nat.le_of_ble_eq_true rfl) ?_; refine JL_du 43 [box _ _ [_], box _ _ [_], box _ _ [_, _, _], box _ _ [_], box _ _ [_], box _ _ [_], box _ _ [_], box _ _ [_]] [_, _, _, _, _, _, _] ?_; refine JC_ret ?_; refine JE_ret (vs := [_]) [vCells ad28 (u32s (limbsOf (x1 / Nat.gcd x1 x2))), vCells ad35 (u32s (limbsOf (x2 / Nat.gcd x1 x2)))] Try.results65 ⟨RV.cell (vs := [_, _, _]) 2 ty53 rfl rfl ⟨rfl, rfl, rfl, trivial⟩, rfl⟩ ?_ ?_
      · exact ⟨ad28, cap28, ad35, cap35, by rw [hM.1, hM.2.1, hM.2.2]; rfl, by rw [hM.2.1, hM.2.2]⟩
      · exact (all_cons am (all_cons am all_nil))

theorem fofi_con (n d : Int) (hn : -9223372036854775808 ≤ n ∧ n ≤ 9223372036854775807) (hn2 : -9223372036854775808 ≤ d ∧ d ≤ 9223372036854775807) :
    ConF Try.prog 44 [.int .i64 n, .int .i64 d] []
      (FO (some (ofq n d))) := by
  have h1 : (limbsOf n.natAbs).length ≤ 3 := limbsOf_len_of_lt (by omega)
  have h2 : (limbsOf d.natAbs).length ≤ 3 := limbsOf_len_of_lt (by omega)
  refine ConF_of Try.func44 rfl 15 _ rfl rfl ?_; intro w0; refine JC_norm ⟨15, [], [_, _, _, _, _, _, _, _, _, _, _, _, _, _, _]⟩ [] [] rfl rfl rfl ?_; refine JC_sr ?_; refine JL_alloc z53 (fun b4 => ?_); refine JL_du 15 [box _ _ [_, _, _]] [] ?_; refine JC_sr ?_; refine JL_m ?_; refine JL_lss rfl rfl ?_; refine JL_m ?_; refine JL_lss rfl rfl ?_; refine JL_neqB ub4 rfl rfl ?_; refine JL_m ?_; refine JL_callF' Asks.nil (fmag_con hn) rfl ca66 ⟨rfl, rfl⟩ ?_; rintro _ _ ⟨ad11, cap11, rfl, hk11, hm11, rfl⟩; refine JL_m ?_; refine JL_callF' Asks.nil (fmag_con hn2) rfl ca66 ⟨rfl, rfl⟩ ?_; rintro _ _ ⟨ad13, cap13, rfl, hk13, hm13, rfl⟩; refine JL_callF' (Asks.cons (holds_of_mem am) (Asks.cons (holds_of_mem am) Asks.nil)) (fmade_con (q := ofq n d) (NIn.of (by omega)) (NIn.of (by omega)) rfl) rfl ca65 ⟨rfl, rfl, rfl, rfl⟩ ?_; rintro _ _ ⟨ad14, cp14, be14, ce14, rfl, rfl⟩; refine JL_store (vs := [_, _, _]) 0 ty53 rfl rfl rfl (AllOne.cons rfl (AllOne.cons rfl (AllOne.cons rfl AllOne.nil))) rfl (Nat.le_of_ble_eq_true rfl) ?_; refine JL_du 15 [box _ _ [_, _, _]] [_, _, _, _] ?_; refine JC_ret ?_
  refine JE_ret (vs := [_]) [vCells ad14 (u32s (fnum (some (ofq n d)))), vCells be14 (u32s (fden (some (ofq n d))))] Try.results44 ⟨RV.cell (vs := [_, _, _]) 0 ty53 rfl rfl ⟨rfl, rfl, rfl, trivial⟩, rfl⟩ ?_ ?_
  · exact ⟨ad14, cp14, be14, ce14, rfl, rfl⟩
  · exact (all_cons am (all_cons am all_nil))

end Go.Fw.K
