/- Walks through functions of the given program: each meets its contract. (Printed by a program of this repo.) -/
import Derived.Test.YtfkfmpfohaomhaaGreatW
import Derived.Test.YtfkfmpfohaomhaaGreatFwC
import Derived.Test.YtfkfmpfohaomhaaGreatProg
namespace Go.Fw.F
open Go Go.RowKit Go.Proofs Go.Nat9 Go.Fw
attribute [local irreducible] JC JL JE
theorem ca38 : callable Tryz.prog 38 = true := by kernel_rfl
theorem ca39 : callable Tryz.prog 39 = true := by kernel_rfl
theorem ca40 : callable Tryz.prog 40 = true := by kernel_rfl
theorem ca41 : callable Tryz.prog 41 = true := by kernel_rfl
theorem ca42 : callable Tryz.prog 42 = true := by kernel_rfl
theorem ca64 : callable Tryz.prog 64 = true := by kernel_rfl
theorem ca69 : callable Tryz.prog 69 = true := by kernel_rfl
theorem ca70 : callable Tryz.prog 70 = true := by kernel_rfl
theorem ca71 : callable Tryz.prog 71 = true := by kernel_rfl
theorem fo29_0 : fOf Tryz.prog 29 0 = some 0 := by kernel_rfl
theorem fo29_1 : fOf Tryz.prog 29 1 = some 1 := by kernel_rfl
theorem fo29_2 : fOf Tryz.prog 29 2 = some 2 := by kernel_rfl
theorem it115 : intTy Tryz.prog 115 = some .u64 := by kernel_rfl
theorem mixed : Tryz.prog.follows .mixedOrders = true := by kernel_rfl
theorem st27 : stOf Tryz.prog 27 = some ([(0, 1)], [.slice none 0 0]) := by kernel_rfl
theorem st29 : stOf Tryz.prog 29 = some ([(0, 1), (1, 1), (2, 1)], [.bool false, .slice none 0 0, .slice none 0 0]) := by kernel_rfl
theorem ty27 : tyOf Tryz.prog 27 = some (true, 1) := by kernel_rfl
theorem ty29 : tyOf Tryz.prog 29 = some (true, 3) := by kernel_rfl
theorem ty4 : tyOf Tryz.prog 4 = some (false, 1) := by kernel_rfl
theorem ub4 : Tryz.prog.underlying 4 = some .bool := by kernel_rfl
theorem us3 : (Tryz.prog.underlying 3).isSome = true := by kernel_rfl
theorem z27 : zeroOf Tryz.prog 27 = some [.slice none 0 0] := by kernel_rfl
theorem z29 : zeroOf Tryz.prog 29 = some [.bool false, .slice none 0 0, .slice none 0 0] := by kernel_rfl
end Go.Fw.F
namespace Go.Fw.K
open Go Go.RowKit Go.Proofs Go.Nat9 Go.Fw Go.Fw.F
attribute [local irreducible] JC JL JE

theorem fzero_con {ad1 : Option Addr} {n1 c1 : Nat} {L1 : List Nat} {x1 : Nat} (g1 : NIn n1 L1 x1 100000000) :
    ConF Tryz.prog 64 [.agg #[.slice ad1 n1 c1]] [vCells ad1 (u32s L1)]
      (fun v φo => v = .bool (decide (x1 = 0)) ∧ φo = []) := by
  refine ConF_of Tryz.func64 rfl 7 _ rfl rfl ?_; intro w0; refine JC_norm ⟨7, [], [_, _, _, _, _, _, _]⟩ [] [_] rfl rfl rfl ?_; refine JC_sr ?_; refine JL_box rfl rfl (fun b1 => ?_); refine JL_assign rfl ?_; refine JL_du 7 [box _ _ [_]] [_] ?_; refine JC_sr ?_; refine JL_loadA (vs := [_]) 0 ty27 rfl rfl ⟨rfl, trivial⟩ ?_; refine JL_build (cs := [_]) [] st27 rfl rfl ?_; refine JL_nilView ?_; refine JL_callF' (Asks.cons (holds_of_mem am) (Asks.cons (holds_of_mem am) Asks.nil)) (nat_cmp_con _ _ _ _ _ (g1.mono (by omega)) _ _ _ _ _ NIn.nil) rfl ca39 ⟨rfl, rfl, rfl⟩ ?_; rintro _ _ ⟨rfl, rfl⟩; refine JL_eql rfl rfl ?_; refine JL_assign rfl ?_; refine JL_du 7 [box _ _ [_]] [_, _] ?_; refine JC_ret ?_; refine JE_ret (vs := [_]) [] Tryz.results64 ⟨rfl, rfl⟩ ?_ ?_
  · exact ⟨by rw [cmpN_dec]; rfl, rfl⟩
  · exact all_nil

theorem fmag_con {n : Int} (hn : -9223372036854775808 ≤ n ∧ n ≤ 9223372036854775807) :
    ConF Tryz.prog 42 [.int .i64 n] []
      (LN n.natAbs) := by
  refine ConF_of Tryz.func42 rfl 12 _ rfl rfl ?_; intro w0; refine JC_norm ⟨12, [], [_, _, _, _, _, _, _, _, _, _, _, _]⟩ [] [] rfl rfl rfl ?_; refine JC_sr ?_; refine JL_alloc z27 (fun b2 => ?_); refine JL_du 12 [box _ _ [_]] [] ?_; refine JC_seq ?_; refine JC_sr ?_; refine JL_m ?_; refine JL_lss rfl rfl ?_; refine JL_split (fun h4 => ?_) (fun h4 => ?_)
  · refine JL_du 12 [box _ _ [_]] [] ?_; refine JC_true rfl ?_; refine JC_sr ?_; refine JL_m ?_; refine JL_convInt us3 it115 rfl (u64_neg1 n h4 hn.1) ?_; refine JL_neg_to rfl (u64_neg2 n h4 hn.1) ?_; refine JL_callF' Asks.nil (nat_of_con n.natAbs (by omega)) rfl ca69 ⟨rfl, rfl⟩ ?_; rintro _ _ ⟨ad8, cap8, rfl, hk8, hm8, rfl⟩; refine JL_store (vs := [_]) 0 ty27 rfl rfl rfl (AllOne.cons rfl AllOne.nil) rfl (Nat.le_of_ble_eq_true rfl) ?_; refine JL_du 12 [box _ _ [_]] [_] ?_; refine JC_ret ?_; refine JE_then_ret ?_; refine JE_ret (vs := [_]) [vCells ad8 (u32s (limbsOf (n.natAbs)))] Tryz.results42 ⟨RV.cell (vs := [_]) 0 ty27 rfl rfl ⟨rfl, trivial⟩, rfl⟩ ?_ ?_
    · exact ⟨ad8, cap8, rfl, hk8, hm8, rfl⟩
    · exact (all_cons am all_nil)
  · refine JL_du 12 [box _ _ [_]] [] ?_; refine JC_false rfl ?_; refine JC_skip ?_; refine JE_then ?_; refine JC_sr ?_; refine JL_m ?_; refine JL_convInt us3 it115 rfl ((IntWalk.u64_in n (by omega)).trans (show n = ((n.natAbs : Nat) : Int) from by omega)) ?_; refine JL_callF' Asks.nil (nat_of_con n.natAbs (by omega)) rfl ca69 ⟨rfl, rfl⟩ ?_; rintro _ _ ⟨ad11, cap11, rfl, hk11, hm11, rfl⟩; refine JL_store (vs := [_]) 0 ty27 rfl rfl rfl (AllOne.cons rfl AllOne.nil) rfl (Nat.le_of_ble_eq_true rfl) ?_; refine JL_du 12 [box _ _ [_]] [_] ?_; refine JC_ret ?_; refine JE_ret (vs := [_]) [vCells ad11 (u32s (limbsOf (n.natAbs)))] Tryz.results42 ⟨RV.cell (vs := [_]) 0 ty27 rfl rfl ⟨rfl, trivial⟩, rfl⟩ ?_ ?_
    · exact ⟨ad11, cap11, rfl, hk11, hm11, rfl⟩
    · exact (all_cons am all_nil)

theorem fmade_con {s : Bool} {ad1 : Option Addr} {n1 c1 : Nat} {L1 : List Nat} {x1 : Nat} (g1 : NIn n1 L1 x1 50000000) {ad2 : Option Addr} {n2 c2 : Nat} {L2 : List Nat} {x2 : Nat} (g2 : NIn n2 L2 x2 50000000) {q : Rat} (hq : mkq s x1 x2 = q) :
    ConF Tryz.prog 41 [.bool s, .agg #[.slice ad1 n1 c1], .agg #[.slice ad2 n2 c2]] [vCells ad1 (u32s L1), vCells ad2 (u32s L2)]
      (FO (some q)) := by
  have hs1 := g1.sz
  have hl1 := g1.le
  have hs2 := g2.sz
  have hl2 := g2.le
  refine ConF_of Tryz.func41 rfl 43 _ rfl rfl ?_; intro w0; refine JC_norm ⟨43, [], [_, _, _, _, _, _, _, _, _, _, _, _, _, _, _, _, _, _, _, _, _, _, _, _, _, _, _, _, _, _, _, _, _, _, _, _, _, _, _, _, _, _, _]⟩ [] [_, _] rfl rfl rfl ?_; refine JC_sr ?_; refine JL_box rfl rfl (fun b4 => ?_); refine JL_box rfl rfl (fun b5 => ?_); refine JL_alloc z29 (fun b6 => ?_); refine JL_du 43 [box _ _ [_], box _ _ [_], box _ _ [_, _, _]] [_, _] ?_; refine JC_seq ?_; refine JC_sr ?_; refine JL_loadA (vs := [_]) 0 ty27 rfl rfl ⟨rfl, trivial⟩ ?_; refine JL_callF' (Asks.cons (holds_of_mem am) Asks.nil) (fzero_con (g1.mono (by omega))) rfl ca64 ⟨rfl, rfl⟩ ?_; rintro _ _ ⟨rfl, rfl⟩; refine JL_split (fun h15 => ?_) (fun h15 => ?_)
  · refine JL_m ?_; refine JL_gn ?_; refine JL_gn ?_; refine JL_pick_t rfl rfl ?_; refine JL_du 43 [box _ _ [_], box _ _ [_], box _ _ [_, _, _]] [_, _] ?_; refine JC_true rfl ?_; refine JC_sr ?_; refine JL_callF' Asks.nil (nat_of_con 1 (by omega)) rfl ca69 ⟨rfl, rfl⟩ ?_; rintro _ _ ⟨ad20, cap20, rfl, hk20, hm20, rfl⟩; refine JL_build (cs := [_, _, _]) [(2, [_])] st29 ⟨⟨rfl, _, rfl, rfl⟩, rfl⟩ rfl ?_; refine JL_store (vs := [_, _, _]) 2 ty29 rfl rfl rfl (AllOne.cons rfl (AllOne.cons rfl (AllOne.cons rfl AllOne.nil))) rfl (Nat.le_of_ble_eq_true rfl) ?_; refine JL_du 43 [box _ _ [_], box _ _ [_], box _ _ [_, _, _]] [_, _, _] ?_; refine JC_ret ?_; refine JE_then_ret ?_
    have hq0 : q = 0 := by rw [← hq]; exact some_mkq0 (by omega)
    subst hq0; refine JE_nilView ?_; refine JE_ret (vs := [_]) [vCells none (u32s []), vCells ad20 (u32s (limbsOf (1)))] Tryz.results41 ⟨RV.cell (vs := [_, _, _]) 2 ty29 rfl rfl ⟨rfl, rfl, rfl, trivial⟩, rfl⟩ ?_ ?_
    · exact ⟨none, 0, ad20, cap20, by rw [fneg_zero, fnum_zero, fden_zero]; rfl, by rw [fnum_zero, fden_zero]⟩
    · exact (all_cons am (all_cons am all_nil))
  · refine JL_m ?_; refine JL_gy ?_; refine JL_loadA (vs := [_]) 1 ty27 rfl rfl ⟨rfl, trivial⟩ ?_; refine JL_gy ?_; refine JL_callF' (Asks.cons (holds_of_mem am) Asks.nil) (fzero_con (g2.mono (by omega))) rfl ca64 ⟨rfl, rfl⟩ ?_; rintro _ _ ⟨rfl, rfl⟩; refine JL_split (fun h18 => ?_) (fun h18 => ?_)
    · refine JL_pick_f rfl rfl ?_; refine JL_du 43 [box _ _ [_], box _ _ [_], box _ _ [_, _, _]] [_, _] ?_; refine JC_true rfl ?_; refine JC_sr ?_; refine JL_callF' Asks.nil (nat_of_con 1 (by omega)) rfl ca69 ⟨rfl, rfl⟩ ?_; rintro _ _ ⟨ad20, cap20, rfl, hk20, hm20, rfl⟩; refine JL_build (cs := [_, _, _]) [(2, [_])] st29 ⟨⟨rfl, _, rfl, rfl⟩, rfl⟩ rfl ?_; refine JL_store (vs := [_, _, _]) 2 ty29 rfl rfl rfl (AllOne.cons rfl (AllOne.cons rfl (AllOne.cons rfl AllOne.nil))) rfl (Nat.le_of_ble_eq_true rfl) ?_; refine JL_du 43 [box _ _ [_], box _ _ [_], box _ _ [_, _, _]] [_, _, _] ?_; refine JC_ret ?_; refine JE_then_ret ?_
      have hq0 : q = 0 := by rw [← hq]; exact some_mkq0 (by omega)
      subst hq0; refine JE_nilView ?_; refine JE_ret (vs := [_]) [vCells none (u32s []), vCells ad20 (u32s (limbsOf (1)))] Tryz.results41 ⟨RV.cell (vs := [_, _, _]) 2 ty29 rfl rfl ⟨rfl, rfl, rfl, trivial⟩, rfl⟩ ?_ ?_
      · exact ⟨none, 0, ad20, cap20, by rw [fneg_zero, fnum_zero, fden_zero]; rfl, by rw [fnum_zero, fden_zero]⟩
      · exact (all_cons am (all_cons am all_nil))
    · refine JL_pick_f rfl rfl ?_; refine JL_du 43 [box _ _ [_], box _ _ [_], box _ _ [_, _, _]] [_, _] ?_; refine JC_false rfl ?_; refine JC_skip ?_; refine JE_then ?_; refine JC_sr ?_; refine JL_loadA (vs := [_]) 0 ty27 rfl rfl ⟨rfl, trivial⟩ ?_; refine JL_loadA (vs := [_]) 1 ty27 rfl rfl ⟨rfl, trivial⟩ ?_
      have hx : 0 < x1 := by omega
      have hy : 0 < x2 := by omega
      have hgp : 0 < Nat.gcd x1 x2 := Nat.gcd_pos_of_pos_left _ hx
      have hgl := len_limbsOf_le (Nat.gcd_le_left x2 hx)
      have hM := some_mkq (s := s) hx hy
      rw [hq] at hM; refine JL_callF' (Asks.cons (holds_of_mem am) (Asks.cons (holds_of_mem am) Asks.nil)) (nat_gcd_con _ _ _ _ _ (g1.mono (by omega)) _ _ _ _ _ (g2.mono (by omega))) rfl ca70 ⟨rfl, rfl, rfl⟩ ?_; rintro _ _ ⟨ad24, cap24, rfl, hk24, hm24, rfl⟩; refine JL_alloc z27 (fun b7 => ?_); refine JL_store (vs := [_]) 3 ty27 rfl rfl rfl (AllOne.cons rfl AllOne.nil) rfl (Nat.le_of_ble_eq_true rfl) ?_; refine JL_du 43 [box _ _ [_], box _ _ [_], box _ _ [_, _, _], box _ _ [_]] [_, _, _] ?_; refine JC_sr ?_; refine JL_loadA (vs := [_]) 0 ty27 rfl rfl ⟨rfl, trivial⟩ ?_; refine JL_loadA (vs := [_]) 3 ty27 rfl rfl ⟨rfl, trivial⟩ ?_; refine JL_callF' (Asks.cons (holds_of_mem am) (Asks.cons (holds_of_mem am) Asks.nil)) (nat_divmod_con _ _ _ _ _ (g1.mono (by omega)) _ _ _ _ _ (NIn.of (by omega)) hgp) rfl ca71 ⟨rfl, rfl, rfl⟩ ?_; rintro _ _ ⟨ad28, cap28, ae28, caq28, rfl, hk28, hm28, hkq28, hmq28, rfl⟩; refine JL_m ?_; refine JL_extract rfl rfl ?_; refine JL_extract rfl rfl ?_; refine JL_extract rfl rfl ?_; refine JL_alloc z27 (fun b8 => ?_); refine JL_alloc z27 (fun b9 => ?_)
      refine JL_store (vs := [_]) 4 ty27 rfl rfl rfl (AllOne.cons rfl AllOne.nil) rfl (Nat.le_of_ble_eq_true rfl) ?_; refine JL_store (vs := [_]) 5 ty27 rfl rfl rfl (AllOne.cons rfl AllOne.nil) rfl (Nat.le_of_ble_eq_true rfl) ?_; refine JL_assign rfl ?_; refine JL_du 43 [box _ _ [_], box _ _ [_], box _ _ [_, _, _], box _ _ [_], box _ _ [_], box _ _ [_]] [_, _, _, _, _] ?_; refine JC_sr ?_; refine JL_loadA (vs := [_]) 1 ty27 rfl rfl ⟨rfl, trivial⟩ ?_; refine JL_loadA (vs := [_]) 3 ty27 rfl rfl ⟨rfl, trivial⟩ ?_; refine JL_callF' (Asks.cons (holds_of_mem am) (Asks.cons (holds_of_mem am) Asks.nil)) (nat_divmod_con _ _ _ _ _ (g2.mono (by omega)) _ _ _ _ _ (NIn.of (by omega)) hgp) rfl ca71 ⟨rfl, rfl, rfl⟩ ?_; rintro _ _ ⟨ad35, cap35, ae35, caq35, rfl, hk35, hm35, hkq35, hmq35, rfl⟩; refine JL_m ?_; refine JL_extract rfl rfl ?_; refine JL_extract rfl rfl ?_; refine JL_extract rfl rfl ?_; refine JL_alloc z27 (fun b11 => ?_); refine JL_alloc z27 (fun b12 => ?_); refine JL_store (vs := [_]) 6 ty27 rfl rfl rfl (AllOne.cons rfl AllOne.nil) rfl (Nat.le_of_ble_eq_true rfl) ?_
      refine JL_store (vs := [_]) 7 ty27 rfl rfl rfl (AllOne.cons rfl AllOne.nil) rfl (Nat.le_of_ble_eq_true rfl) ?_; refine JL_assign rfl ?_; refine JL_du 43 [box _ _ [_], box _ _ [_], box _ _ [_, _, _], box _ _ [_], box _ _ [_], box _ _ [_], box _ _ [_], box _ _ [_]] [_, _, _, _, _, _, _] ?_; refine JC_sr ?_; refine JL_m ?_; refine JL_loadA (vs := [_]) 4 ty27 rfl rfl ⟨rfl, trivial⟩ ?_; refine JL_loadA (vs := [_]) 6 ty27 rfl rfl ⟨rfl, trivial⟩ ?_; refine JL_build (cs := [_, _, _]) [(0, [_]), (1, [_]), (2, [_])] st29 ⟨⟨rfl, _, rfl, rfl⟩, ⟨rfl, _, rfl, rfl⟩, ⟨rfl, _, rfl, rfl⟩, rfl⟩ rfl ?_; refine JL_store (vs := [_, _, _]) 2 ty29 rfl rfl rfl (AllOne.cons rfl (AllOne.cons rfl (AllOne.cons rfl AllOne.nil))) rfl (Nat.le_of_ble_eq_true rfl) ?_; refine JL_du 43 [box _ _ [_], box _ _ [_], box _ _ [_, _, _], box _ _ [_], box _ _ [_], box _ _ [_], box _ _ [_], box _ _ [_]] [_, _, _, _, _, _, _] ?_; refine JC_ret ?_; refine JE_ret (vs := [_]) [vCells ad28 (u32s (limbsOf (x1 / Nat.gcd x1 x2))), vCells ad35 (u32s (limbsOf (x2 / Nat.gcd x1 x2)))] Tryz.results41 ⟨RV.cell (vs := [_, _, _]) 2 ty29 rfl rfl ⟨rfl, rfl, rfl, trivial⟩, rfl⟩ ?_ ?_
      · exact ⟨ad28, cap28, ad35, cap35, by rw [hM.1, hM.2.1, hM.2.2]; rfl, by rw [hM.2.1, hM.2.2]⟩
      · exact (all_cons am (all_cons am all_nil))

theorem fofi_con (n d : Int) (hn : -9223372036854775808 ≤ n ∧ n ≤ 9223372036854775807) (hn2 : -9223372036854775808 ≤ d ∧ d ≤ 9223372036854775807) :
    ConF Tryz.prog 19 [.int .i64 n, .int .i64 d] []
      (FO (some (ofq n d))) := by
  have h1 : (limbsOf n.natAbs).length ≤ 3 := limbsOf_len_of_lt (by omega)
  have h2 : (limbsOf d.natAbs).length ≤ 3 := limbsOf_len_of_lt (by omega)
  refine ConF_of Tryz.func19 rfl 15 _ rfl rfl ?_; intro w0; refine JC_norm ⟨15, [], [_, _, _, _, _, _, _, _, _, _, _, _, _, _, _]⟩ [] [] rfl rfl rfl ?_; refine JC_sr ?_; refine JL_alloc z29 (fun b4 => ?_); refine JL_du 15 [box _ _ [_, _, _]] [] ?_; refine JC_sr ?_; refine JL_m ?_; refine JL_lss rfl rfl ?_; refine JL_m ?_; refine JL_lss rfl rfl ?_; refine JL_neqB ub4 rfl rfl ?_; refine JL_m ?_; refine JL_callF' Asks.nil (fmag_con hn) rfl ca42 ⟨rfl, rfl⟩ ?_; rintro _ _ ⟨ad11, cap11, rfl, hk11, hm11, rfl⟩; refine JL_m ?_; refine JL_callF' Asks.nil (fmag_con hn2) rfl ca42 ⟨rfl, rfl⟩ ?_; rintro _ _ ⟨ad13, cap13, rfl, hk13, hm13, rfl⟩; refine JL_callF' (Asks.cons (holds_of_mem am) (Asks.cons (holds_of_mem am) Asks.nil)) (fmade_con (q := ofq n d) (NIn.of (by omega)) (NIn.of (by omega)) rfl) rfl ca41 ⟨rfl, rfl, rfl, rfl⟩ ?_; rintro _ _ ⟨ad14, cp14, be14, ce14, rfl, rfl⟩; refine JL_store (vs := [_, _, _]) 0 ty29 rfl rfl rfl (AllOne.cons rfl (AllOne.cons rfl (AllOne.cons rfl AllOne.nil))) rfl (Nat.le_of_ble_eq_true rfl) ?_; refine JL_du 15 [box _ _ [_, _, _]] [_, _, _, _] ?_; refine JC_ret ?_
  refine JE_ret (vs := [_]) [vCells ad14 (u32s (fnum (some (ofq n d)))), vCells be14 (u32s (fden (some (ofq n d))))] Tryz.results19 ⟨RV.cell (vs := [_, _, _]) 0 ty29 rfl rfl ⟨rfl, rfl, rfl, trivial⟩, rfl⟩ ?_ ?_
  · exact ⟨ad14, cp14, be14, ce14, rfl, rfl⟩
  · exact (all_cons am (all_cons am all_nil))

theorem fsign_con {s1 : Bool} {ad1 : Option Addr} {n1 c1 : Nat} {L1 : List Nat} {be1 : Option Addr} {m1 e1 : Nat} {M1 : List Nat} {q1 : Rat} (g1 : FIn s1 n1 L1 m1 M1 q1 10000000) :
    ConF Tryz.prog 38 [.agg #[.bool s1, .slice ad1 n1 c1, .slice be1 m1 e1]] [vCells ad1 (u32s L1), vCells be1 (u32s M1)]
      (fun v φo => v = .int .i64 (sgnQ q1) ∧ φo = []) := by
  refine ConF_of Tryz.func38 rfl 15 _ rfl rfl ?_; intro w0; refine JC_norm ⟨15, [], [_, _, _, _, _, _, _, _, _, _, _, _, _, _, _]⟩ [] [_, _] rfl rfl rfl ?_; refine JC_sr ?_; refine JL_box rfl rfl (fun b1 => ?_); refine JL_assign rfl ?_; refine JL_du 15 [box _ _ [_, _, _]] [_, _] ?_; refine JC_seq ?_; refine JC_block ?_; refine JC_sr ?_; refine JL_fieldAddr fo29_1 rfl ?_; refine JL_loadA (vs := [_]) 0 ty27 rfl rfl ⟨rfl, trivial⟩ ?_; refine JL_callF' (Asks.cons (holds_of_mem am) Asks.nil) (fzero_con (g1.num.mono (by omega))) rfl ca64 ⟨rfl, rfl⟩ ?_; rintro _ _ ⟨rfl, rfl⟩; refine JL_split (fun h6 => ?_) (fun h6 => ?_)
  · refine JL_m ?_; refine JL_gn ?_; refine JL_gn ?_; refine JL_gn ?_; refine JL_pick_t rfl rfl ?_; refine JL_assign rfl ?_; refine JL_du 15 [box _ _ [_, _, _]] [_, _] ?_; refine JC_true rfl ?_; refine JC_sr ?_; refine JL_assign rfl ?_; refine JL_du 15 [box _ _ [_, _, _]] [_, _] ?_; refine JC_ret ?_; refine JE_block_ret ?_; refine JE_then_ret ?_; refine JE_ret (vs := [_]) [] Tryz.results38 ⟨rfl, rfl⟩ ?_ ?_
    · exact ⟨by rw [← g1.eq, sgnQ_mkq, if_pos (by omega)]; rfl, rfl⟩
    · exact all_nil
  · refine JL_m ?_; refine JL_gy ?_; refine JL_fieldAddr fo29_2 rfl ?_; refine JL_gy ?_; refine JL_loadA (vs := [_]) 0 ty27 rfl rfl ⟨rfl, trivial⟩ ?_; refine JL_gy ?_; refine JL_callF' (Asks.cons (holds_of_mem am) Asks.nil) (fzero_con (g1.den.mono (by omega))) rfl ca64 ⟨rfl, rfl⟩ ?_; rintro _ _ ⟨rfl, rfl⟩; refine JL_split (fun h10 => ?_) (fun h10 => ?_)
    · refine JL_pick_f rfl rfl ?_; refine JL_assign rfl ?_; refine JL_du 15 [box _ _ [_, _, _]] [_, _] ?_; refine JC_true rfl ?_; refine JC_sr ?_; refine JL_assign rfl ?_; refine JL_du 15 [box _ _ [_, _, _]] [_, _] ?_; refine JC_ret ?_; refine JE_block_ret ?_; refine JE_then_ret ?_; refine JE_ret (vs := [_]) [] Tryz.results38 ⟨rfl, rfl⟩ ?_ ?_
      · exact ⟨by rw [← g1.eq, sgnQ_mkq, if_pos (by omega)]; rfl, rfl⟩
      · exact all_nil
    · refine JL_pick_f rfl rfl ?_; refine JL_assign rfl ?_; refine JL_du 15 [box _ _ [_, _, _]] [_, _] ?_; refine JC_false rfl ?_; refine JC_sr ?_; refine JL_fieldAddr fo29_0 rfl ?_; refine JL_load 0 ty4 rfl rfl rfl ?_; refine JL_assign rfl ?_; refine JL_du 15 [box _ _ [_, _, _]] [_, _] ?_; refine JC_cond rfl (fun hb => ?_) (fun hb => ?_)
      · have h12 := hb
        refine JC_sr ?_; refine JL_assign rfl ?_; refine JL_du 15 [box _ _ [_, _, _]] [_, _] ?_; refine JC_ret ?_; refine JE_block_ret ?_; refine JE_then_ret ?_; refine JE_ret (vs := [_]) [] Tryz.results38 ⟨rfl, rfl⟩ ?_ ?_
        · exact ⟨by rw [← g1.eq, sgnQ_mkq, if_neg (by omega), h12]; rfl, rfl⟩
        · exact all_nil
      · have h12 := hb
        refine JC_skip ?_; refine JE_block_normal ?_; refine JE_then ?_; refine JC_sr ?_; refine JL_assign rfl ?_; refine JL_du 15 [box _ _ [_, _, _]] [_, _] ?_; refine JC_ret ?_; refine JE_ret (vs := [_]) [] Tryz.results38 ⟨rfl, rfl⟩ ?_ ?_
        · exact ⟨by rw [← g1.eq, sgnQ_mkq, if_neg (by omega), h12]; rfl, rfl⟩
        · exact all_nil

theorem fcmpq_con {s1 : Bool} {ad1 : Option Addr} {n1 c1 : Nat} {L1 : List Nat} {be1 : Option Addr} {m1 e1 : Nat} {M1 : List Nat} {q1 : Rat} (g1 : FIn s1 n1 L1 m1 M1 q1 1000000) {s2 : Bool} {ad2 : Option Addr} {n2 c2 : Nat} {L2 : List Nat} {be2 : Option Addr} {m2 e2 : Nat} {M2 : List Nat} {q2 : Rat} (g2 : FIn s2 n2 L2 m2 M2 q2 1000000) :
    ConF Tryz.prog 18 [.agg #[.bool s1, .slice ad1 n1 c1, .slice be1 m1 e1], .agg #[.bool s2, .slice ad2 n2 c2, .slice be2 m2 e2]] [vCells ad1 (u32s L1), vCells be1 (u32s M1), vCells ad2 (u32s L2), vCells be2 (u32s M2)]
      (fun v φo => v = .int .i64 (cmpQ q1 q2) ∧ φo = []) := by
  have hs1n := g1.num.sz
  have hl1n := g1.num.le
  have hs1d := g1.den.sz
  have hl1d := g1.den.le
  have hs2n := g2.num.sz
  have hl2n := g2.num.le
  have hs2d := g2.den.sz
  have hl2d := g2.den.le
  have hmA := len_limbsOf_mul (val L1) (val M2)
  have hmB := len_limbsOf_mul (val L2) (val M1)
  refine ConF_of Tryz.func18 rfl 35 _ rfl rfl ?_; intro w0; refine JC_norm ⟨35, [], [_, _, _, _, _, _, _, _, _, _, _, _, _, _, _, _, _, _, _, _, _, _, _, _, _, _, _, _, _, _, _, _, _, _, _]⟩ [] [_, _, _, _] rfl rfl rfl ?_; refine JC_sr ?_; refine JL_box rfl rfl (fun b2 => ?_); refine JL_box rfl rfl (fun b3 => ?_); refine JL_assign rfl ?_; refine JL_du 35 [box _ _ [_, _, _], box _ _ [_, _, _]] [_, _, _, _] ?_; refine JC_seq ?_; refine JC_drawT mixed 3 [spV 7 [] _, spC 8 [0] _, spV 9 [] _] ⟨OblS_V (fun vals ex ψ => (by refine JL_normQ _ (_ :: _ :: _ :: _ :: ψ) rfl rfl ?_; refine JL_loadA (vs := [_, _, _]) 0 ty29 rfl rfl ⟨rfl, rfl, rfl, trivial⟩ ?_; exact vz rfl)), OblS_C (fun vals ex ψ => (by refine JL_normQ ⟨35, [(7, _), (8, _), (9, _)], _⟩ (_ :: _ :: _ :: _ :: ψ) rfl rfl ?_; refine JL_callF' (Asks.cons (holds_of_mem am) (Asks.cons (holds_of_mem am) Asks.nil)) (fsign_con (g1.mono (by omega))) rfl ca38 ⟨rfl, rfl⟩ ?_; exact fun v φo hP => JL_nil (JE_stepC φo rfl hP (fun p hp => mapB_l hp) (fun p hp => mapB_r (ss0 p hp))))), OblS_V (fun vals ex ψ => (by refine JL_normQ _ (_ :: _ :: _ :: _ :: ψ) rfl rfl ?_; refine JL_loadA (vs := [_, _, _]) 1 ty29 rfl rfl ⟨rfl, rfl, rfl, trivial⟩ ?_; exact vz rfl)), trivial⟩ (by kernel_rfl) (fun vals bs => ?_)
  refine JL_normL [_, _, _] ⟨35, [(7, _), (8, _), (9, _)], _⟩ [box _ _ [_, _, _], box _ _ [_, _, _]] [_, _, _, _, _] rfl rfl rfl rfl ?_; generalize vals (0 + 1) = x8; refine JL_usePost mm0 (fun φo hP => ?_); obtain ⟨rfl, rfl⟩ := hP; refine JL_norm _ [box _ _ [_, _, _], box _ _ [_, _, _]] [_, _, _, _, _] rfl rfl rfl ?_; refine JL_callF' (Asks.cons (holds_of_mem am) (Asks.cons (holds_of_mem am) Asks.nil)) (fsign_con (g2.mono (by omega))) rfl ca38 ⟨rfl, rfl⟩ ?_; rintro _ _ ⟨rfl, rfl⟩; refine JL_assign rfl ?_; refine JL_assign rfl ?_; refine JL_du 35 [box _ _ [_, _, _], box _ _ [_, _, _]] [_, _, _, _, _] ?_; refine JC_seq ?_; refine JC_block ?_; refine JC_sr ?_; refine JL_m ?_; refine JL_m ?_; refine JL_lss rfl rfl ?_; refine JL_split (fun h14 => ?_) (fun h14 => ?_)
  · refine JL_assign rfl ?_; refine JL_du 35 [box _ _ [_, _, _], box _ _ [_, _, _]] [_, _, _, _, _] ?_; refine JC_true rfl ?_; refine JC_sr ?_; refine JL_assign rfl ?_; refine JL_du 35 [box _ _ [_, _, _], box _ _ [_, _, _]] [_, _, _, _, _] ?_; refine JC_ret ?_; refine JE_block_ret ?_; refine JE_then_ret ?_; refine JE_ret (vs := [_]) [] Tryz.results18 ⟨rfl, rfl⟩ ?_ ?_
    · exact ⟨by rw [sgn_lt h14]; rfl, rfl⟩
    · exact all_nil
  · refine JL_assign rfl ?_; refine JL_du 35 [box _ _ [_, _, _], box _ _ [_, _, _]] [_, _, _, _, _] ?_; refine JC_false rfl ?_; refine JC_sr ?_; refine JL_m ?_; refine JL_m ?_; refine JL_gtr rfl rfl ?_; refine JL_split (fun h18 => ?_) (fun h18 => ?_)
    · refine JL_assign rfl ?_; refine JL_du 35 [box _ _ [_, _, _], box _ _ [_, _, _]] [_, _, _, _, _] ?_; refine JC_true rfl ?_; refine JC_sr ?_; refine JL_assign rfl ?_; refine JL_du 35 [box _ _ [_, _, _], box _ _ [_, _, _]] [_, _, _, _, _] ?_; refine JC_ret ?_; refine JE_block_ret ?_; refine JE_then_ret ?_; refine JE_ret (vs := [_]) [] Tryz.results18 ⟨rfl, rfl⟩ ?_ ?_
      · exact ⟨by rw [sgn_gt h18]; rfl, rfl⟩
      · exact all_nil
    · refine JL_assign rfl ?_; refine JL_du 35 [box _ _ [_, _, _], box _ _ [_, _, _]] [_, _, _, _, _] ?_; refine JC_false rfl ?_; refine JC_sr ?_; refine JL_m ?_; refine JL_eql rfl rfl ?_; refine JL_split (fun h21 => ?_) (fun h21 => ?_)
      · refine JL_assign rfl ?_; refine JL_du 35 [box _ _ [_, _, _], box _ _ [_, _, _]] [_, _, _, _, _] ?_; refine JC_true rfl ?_; refine JC_sr ?_; refine JL_assign rfl ?_; refine JL_du 35 [box _ _ [_, _, _], box _ _ [_, _, _]] [_, _, _, _, _] ?_; refine JC_ret ?_; refine JE_block_ret ?_; refine JE_then_ret ?_; refine JE_ret (vs := [_]) [] Tryz.results18 ⟨rfl, rfl⟩ ?_ ?_
        · exact ⟨by rw [sgn_zero h21 (by omega)]; rfl, rfl⟩
        · exact all_nil
      · refine JL_assign rfl ?_; refine JL_du 35 [box _ _ [_, _, _], box _ _ [_, _, _]] [_, _, _, _, _] ?_; refine JC_false rfl ?_; refine JC_skip ?_; refine JE_block_normal ?_; refine JE_then ?_; refine JC_seq ?_; refine JC_drawT mixed 12 [spV 22 [] _, spV 23 [] _, spV 24 [1] _, spV 25 [] _, spV 26 [3] _, spC 27 [2, 4] _, spV 28 [] _, spV 29 [6] _, spV 30 [] _, spV 31 [8] _, spC 32 [7, 9] _, spC 33 [5, 10] _] ⟨oM, OblS_V (fun vals ex ψ => (by refine JL_normQ _ (_ :: _ :: _ :: _ :: _ :: ψ) rfl rfl ?_; refine JL_fieldAddr fo29_1 rfl ?_; exact vz rfl)), OblS_V (fun vals ex ψ => (by refine JL_normQ _ (_ :: _ :: _ :: _ :: _ :: ψ) rfl rfl ?_; refine JL_loadA (vs := [_]) 0 ty27 rfl rfl ⟨rfl, trivial⟩ ?_; exact vz rfl)), OblS_V (fun vals ex ψ => (by refine JL_normQ _ (_ :: _ :: _ :: _ :: _ :: ψ) rfl rfl ?_; refine JL_fieldAddr fo29_2 rfl ?_; exact vz rfl)), OblS_V (fun vals ex ψ => (by refine JL_normQ _ (_ :: _ :: _ :: _ :: _ :: ψ) rfl rfl ?_; refine JL_loadA (vs := [_]) 1 ty27 rfl rfl ⟨rfl, trivial⟩ ?_; exact vz rfl)), OblS_C (fun vals ex ψ => (by refine JL_normQ ⟨35, [(22, _), (23, _), (24, _), (25, _), (26, _), (27, _), (28, _), (29, _), (30, _), (31, _), (32, _), (33, _)], _⟩ (_ :: _ :: _ :: _ :: _ :: ψ) rfl rfl ?_; refine JL_callF' (Asks.cons (holds_of_mem am) (Asks.cons (holds_of_mem am) Asks.nil)) (nat_mul_con _ _ _ _ _ (g1.num.mono (by omega)) _ _ _ _ _ (g2.den.mono (by omega))) rfl ca40 ⟨rfl, rfl, rfl⟩ ?_; exact fun v φo hP => JL_nil (JE_stepC φo rfl hP (fun p hp => mapB_l hp) (fun p hp => mapB_r (ss0 p hp))))), OblS_V (fun vals ex ψ => (by refine JL_normQ _ (_ :: _ :: _ :: _ :: _ :: ψ) rfl rfl ?_; refine JL_fieldAddr fo29_1 rfl ?_; exact vz rfl)), OblS_V (fun vals ex ψ => (by
            refine JL_normQ _ (_ :: _ :: _ :: _ :: _ :: ψ) rfl rfl ?_; refine JL_loadA (vs := [_]) 1 ty27 rfl rfl ⟨rfl, trivial⟩ ?_; exact vz rfl)), OblS_V (fun vals ex ψ => (by refine JL_normQ _ (_ :: _ :: _ :: _ :: _ :: ψ) rfl rfl ?_; refine JL_fieldAddr fo29_2 rfl ?_; exact vz rfl)), OblS_V (fun vals ex ψ => (by refine JL_normQ _ (_ :: _ :: _ :: _ :: _ :: ψ) rfl rfl ?_; refine JL_loadA (vs := [_]) 0 ty27 rfl rfl ⟨rfl, trivial⟩ ?_; exact vz rfl)), OblS_C (fun vals ex ψ => (by refine JL_normQ ⟨35, [(22, _), (23, _), (24, _), (25, _), (26, _), (27, _), (28, _), (29, _), (30, _), (31, _), (32, _), (33, _)], _⟩ (_ :: _ :: _ :: _ :: _ :: ψ) rfl rfl ?_; refine JL_callF' (Asks.cons (holds_of_mem am) (Asks.cons (holds_of_mem am) Asks.nil)) (nat_mul_con _ _ _ _ _ (g2.num.mono (by omega)) _ _ _ _ _ (g1.den.mono (by omega))) rfl ca40 ⟨rfl, rfl, rfl⟩ ?_; exact fun v φo hP => JL_nil (JE_stepC φo rfl hP (fun p hp => mapB_l hp) (fun p hp => mapB_r (ss0 p hp))))), OblS_C (fun vals ex ψ => (by
            refine JL_normQ ⟨35, [(22, _), (23, _), (24, _), (25, _), (26, _), (27, _), (28, _), (29, _), (30, _), (31, _), (32, _), (33, _)], _⟩ (_ :: _ :: _ :: _ :: _ :: _ :: _ :: ψ) rfl rfl ?_; generalize vals 5 = x27; refine JL_usePost mm0 (fun φo hP => ?_); obtain ⟨ad27, cap27, rfl, hk27, hm27, rfl⟩ := hP; refine JL_norm _ _ (_ :: _ :: _ :: _ :: _ :: _ :: _ :: _ :: ψ) rfl rfl rfl ?_; generalize vals 10 = x32; refine JL_usePost (mmS (mmS mm0)) (fun φo hP => ?_); obtain ⟨ad32, cap32, rfl, hk32, hm32, rfl⟩ := hP; refine JL_norm _ _ (_ :: _ :: _ :: _ :: _ :: _ :: _ :: _ :: _ :: ψ) rfl rfl rfl ?_; refine JL_callF' (Asks.cons (holds_of_mem am) (Asks.cons (holds_of_mem am) Asks.nil)) (nat_cmp_con _ _ _ _ _ (NIn.of (by omega)) _ _ _ _ _ (NIn.of (by omega))) rfl ca39 ⟨rfl, rfl, rfl⟩ ?_; exact fun v φo hP => JL_nil (JE_stepC φo rfl hP (fun p hp => mapB_l hp) (fun p hp => mapB_r ((ssS (ssS ss0)) p hp))))), trivial⟩ (by kernel_rfl) (fun vals bs => ?_)
        refine JL_normL [_, _] ⟨35, [(22, _), (23, _), (24, _), (25, _), (26, _), (27, _), (28, _), (29, _), (30, _), (31, _), (32, _), (33, _)], _⟩ [box _ _ [_, _, _], box _ _ [_, _, _]] [_, _, _, _, _, _, _, _] rfl rfl rfl rfl ?_; generalize vals (0 + 1 + 1 + 1 + 1 + 1) = x27; generalize vals (0 + 1 + 1 + 1 + 1 + 1 + 1 + 1 + 1 + 1 + 1) = x32; generalize vals (0 + 1 + 1 + 1 + 1 + 1 + 1 + 1 + 1 + 1 + 1 + 1) = x33; refine JL_usePost (mmS (mmS mm0)) (fun φo hP => ?_); obtain ⟨rfl, rfl⟩ := hP; refine JL_norm _ [box _ _ [_, _, _], box _ _ [_, _, _]] [_, _, _, _, _, _, _, _] rfl rfl rfl ?_
        have hcq : sgnQ q1 * cmpN (val L1 * val M2) (val L2 * val M1) = cmpQ q1 q2 := by
          have h1 : sgnQ q1 = sgnQ q2 := by omega
          have h2 : sgnQ q1 ≠ 0 := h21
          rw [← g1.eq, ← g2.eq] at h1; rw [← g1.eq] at h2; rw [← g1.eq, ← g2.eq]; exact cmpQ_of h1 h2
        have hrg := cmpQ_rng q1 q2
        refine JL_mul_to rfl rfl (i64_of hcq (by omega) (by omega)) ?_; refine JL_assign rfl ?_; refine JL_du 35 [box _ _ [_, _, _], box _ _ [_, _, _]] [_, _, _, _, _, _, _, _] ?_; refine JC_ret ?_; refine JE_ret (vs := [_]) [] Tryz.results18 ⟨rfl, rfl⟩ ?_ ?_
        · exact ⟨rfl, rfl⟩
        · exact all_nil

end Go.Fw.K
