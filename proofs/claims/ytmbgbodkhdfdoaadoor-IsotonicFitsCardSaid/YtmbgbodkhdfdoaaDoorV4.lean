/- Walks through functions of the given program: each meets its contract. (Printed by a program of this repo.) -/
import Derived.Test.YtmbgbodkhdfdoaaDoorV1
import Derived.Test.YtmbgbodkhdfdoaaDoorV2
import Derived.Test.YtmbgbodkhdfdoaaDoorV3
import Derived.Test.YtmbgbodkhdfdoaaDoorFwK
import Derived.Test.YtmbgbodkhdfdoaaDoorProg
namespace Go.Fw.V4
open Go Go.RowKit Go.Proofs Go.Nat9 Go.Fw
attribute [local irreducible] JC JL JE
theorem ca68 : callable Tryd.prog 68 = true := by kernel_rfl
theorem ca71 : callable Tryd.prog 71 = true := by kernel_rfl
theorem ca72 : callable Tryd.prog 72 = true := by kernel_rfl
theorem ca94 : callable Tryd.prog 94 = true := by kernel_rfl
theorem ca99 : callable Tryd.prog 99 = true := by kernel_rfl
theorem fo24_0 : fOf Tryd.prog 24 0 = some 0 := by kernel_rfl
theorem it87 : intTy Tryd.prog 87 = some .u32 := by kernel_rfl
theorem it94 : intTy Tryd.prog 94 = some .u64 := by kernel_rfl
theorem mixed : Tryd.prog.follows .mixedOrders = true := by kernel_rfl
theorem sl22 : slOf Tryd.prog 22 = some (87, 1, 4, [.int .u32 0]) := by kernel_rfl
theorem st24 : stOf Tryd.prog 24 = some ([(0, 1)], [.slice none 0 0]) := by kernel_rfl
theorem ty22 : tyOf Tryd.prog 22 = some (false, 1) := by kernel_rfl
theorem ty24 : tyOf Tryd.prog 24 = some (true, 1) := by kernel_rfl
theorem ty87 : tyOf Tryd.prog 87 = some (false, 1) := by kernel_rfl
theorem us87 : (Tryd.prog.underlying 87).isSome = true := by kernel_rfl
theorem us94 : (Tryd.prog.underlying 94).isSome = true := by kernel_rfl
theorem z24 : zeroOf Tryd.prog 24 = some [.slice none 0 0] := by kernel_rfl
end Go.Fw.V4
namespace Go.Fw.K
open Go Go.RowKit Go.Proofs Go.Nat9 Go.Fw Go.Fw.V4
attribute [local irreducible] JC JL JE

set_option maxHeartbeats 2000000 in
set_option maxRecDepth 20000 in
theorem rdivmod_con (ad1 : Option Addr) (n1 c1 : Nat) (L1 : List Nat) (x1 : Nat) (g1 : NIn n1 L1 x1 100000100) (ad2 : Option Addr) (n2 c2 : Nat) (L2 : List Nat) (x2 : Nat) (g2 : NIn n2 L2 x2 100000100) (hpos : 0 < x2) :
    ConF Tryd.prog 97 [.agg #[.slice ad1 n1 c1], .agg #[.slice ad2 n2 c2]] [vCells ad1 (u32s L1), vCells ad2 (u32s L2)]
      (LN2E (x1 / x2) (x1 % x2) 0) := by
  have hs1 := g1.sz
  have hl1 := g1.le
  have hs2 := g2.sz
  have hl2 := g2.le
  have hlp := limbsOf_len_pos hpos
  refine ConF_of Tryd.func97 rfl 178 _ rfl rfl ?_
  intro w0
  refine JC_norm ⟨178, [], [_, _, _, _, _, _, _, _, _, _, _, _, _, _, _, _, _, _, _, _, _, _, _, _, _, _, _, _, _, _, _, _, _, _, _, _, _, _, _, _, _, _, _, _, _, _, _, _, _, _, _, _, _, _, _, _, _, _, _, _, _, _, _, _, _, _, _, _, _, _, _, _, _, _, _, _, _, _, _, _, _, _, _, _, _, _, _, _, _, _, _, _, _, _, _, _, _, _, _, _, _, _, _, _, _, _, _, _, _, _, _, _, _, _, _, _, _, _, _, _, _, _, _, _, _, _, _, _, _, _, _, _, _, _, _, _, _, _, _, _, _, _, _, _, _, _, _, _, _, _, _, _, _, _, _, _, _, _, _, _, _, _, _, _, _, _, _, _, _, _, _, _, _, _, _, _, _, _]⟩ [] [_, _] rfl rfl rfl ?_
  refine JC_seq ?_
  refine JC_region ?_
  refine JL_box rfl rfl (fun b2 => ?_)
  refine JL_box rfl rfl (fun b3 => ?_)
  refine JL_alloc z24 (fun b4 => ?_)
  refine JL_alloc z24 (fun b5 => ?_)
  refine JL_assign rfl ?_
  refine JL_done_up 178 [box _ _ [_], box _ _ [_], box _ _ [_], box _ _ [_]] [_, _] rfl rfl (by simp only [nrmF]; rfl) rfl rfl ?_
  refine JC_seq ?_
  refine JC_region ?_
  refine JL_loadA (vs := [_]) 0 ty24 rfl rfl ⟨rfl, trivial⟩ ?_
  refine JL_callF' (Asks.cons (holds_of_mem (by repeat (first | with_reducible exact mm0 | refine mmS ?_))) Asks.nil) (rnorm_con _ _ _ _ _ (g1.mono (by omega))) rfl ca94 ⟨rfl, rfl⟩ ?_
  rintro _ _ ⟨ad21, cap21, rfl, hk21, hm21, rfl⟩
  refine JL_store (vs := [_]) 0 ty24 rfl rfl rfl (AllOne.cons rfl AllOne.nil) rfl (Nat.le_of_ble_eq_true rfl) ?_
  refine JL_done_up 178 [box _ _ [_], box _ _ [_], box _ _ [_], box _ _ [_]] [_, _, _] rfl rfl (by simp only [nrmF]; rfl) rfl rfl ?_
  refine JC_seq ?_
  refine JC_region ?_
  refine JL_loadA (vs := [_]) 1 ty24 rfl rfl ⟨rfl, trivial⟩ ?_
  refine JL_callF' (Asks.cons (holds_of_mem (by repeat (first | with_reducible exact mm0 | refine mmS ?_))) Asks.nil) (rnorm_con _ _ _ _ _ (g2.mono (by omega))) rfl ca94 ⟨rfl, rfl⟩ ?_
  rintro _ _ ⟨ad23, cap23, rfl, hk23, hm23, rfl⟩
  refine JL_store (vs := [_]) 1 ty24 rfl rfl rfl (AllOne.cons rfl AllOne.nil) rfl (Nat.le_of_ble_eq_true rfl) ?_
  refine JL_done_up 178 [box _ _ [_], box _ _ [_], box _ _ [_], box _ _ [_]] [_, _, _, _] rfl rfl (by simp only [nrmF]; rfl) rfl rfl ?_
  refine JC_seq ?_
  refine JC_region ?_
  refine JL_fieldAddr fo24_0 rfl ?_
  refine JL_load 1 ty22 rfl rfl rfl ?_
  refine JL_len sl22 rfl ?_
  refine JL_assign rfl ?_
  refine JL_done_up 178 [box _ _ [_], box _ _ [_], box _ _ [_], box _ _ [_]] [_, _, _, _] rfl rfl (by simp only [nrmF]; rfl) rfl rfl ?_
  refine JC_seq ?_
  refine JC_seq ?_
  refine JC_region ?_
  refine JL_move rfl ?_
  refine JL_eql rfl rfl ?_
  refine JL_split (fun h28 => ?_) (fun h28 => ?_)
  · exact absurd h28 (by omega)
  · refine JL_done_up 178 [box _ _ [_], box _ _ [_], box _ _ [_], box _ _ [_]] [_, _, _, _] rfl rfl (by simp only [nrmF]; rfl) rfl rfl ?_
    refine JC_false rfl ?_
    refine JC_skip ?_
    refine JE_then ?_
    refine JC_seq ?_
    refine JC_seq ?_
    refine JC_region ?_
    refine JL_loadA (vs := [_]) 0 ty24 rfl rfl ⟨rfl, trivial⟩ ?_
    refine JL_loadA (vs := [_]) 1 ty24 rfl rfl ⟨rfl, trivial⟩ ?_
    refine JL_callF' (Asks.cons (holds_of_mem (by repeat (first | with_reducible exact mm0 | refine mmS ?_))) (Asks.cons (holds_of_mem (by repeat (first | with_reducible exact mm0 | refine mmS ?_))) Asks.nil)) (rcmp_con _ _ _ _ _ (NIn.of (by omega)) _ _ _ _ _ (NIn.of (by omega))) rfl ca71 ⟨rfl, rfl, rfl⟩ ?_
    rintro _ _ ⟨rfl, rfl⟩
    refine JL_lss rfl rfl ?_
    refine JL_split (fun h34 => ?_) (fun h34 => ?_)
    · refine JL_done_up 178 [box _ _ [_], box _ _ [_], box _ _ [_], box _ _ [_]] [_, _, _, _] rfl rfl (by simp only [nrmF]; rfl) rfl rfl ?_
      refine JC_true rfl ?_
      refine JC_seq ?_
      refine JC_drawA mixed 5 rfl ?_
      refine JA_step [0, 1] (by kernel_rfl) (by simp) ⟨⟨_, rfl, ?_⟩, ⟨_, rfl, ?_⟩, trivial⟩
      · refine JL_build (cs := [_]) [] st24 rfl rfl ?_
        refine JL_nil_up 178 [box _ _ [_], box _ _ [_], box _ _ [_], box _ _ [_]] [_, _, _, _] rfl rfl (by simp only [nrmF]; rfl) rfl rfl ?_
        refine JE_nextA ?_
        refine JA_step [1, 2] (by kernel_rfl) (by simp) ⟨⟨_, rfl, ?_⟩, ⟨_, rfl, ?_⟩, trivial⟩
        · refine JL_loadA (vs := [_]) 0 ty24 rfl rfl ⟨rfl, trivial⟩ ?_
          refine JL_nil_up 178 [box _ _ [_], box _ _ [_], box _ _ [_], box _ _ [_]] [_, _, _, _] rfl rfl (by simp only [nrmF]; rfl) rfl rfl ?_
          refine JE_nextA ?_
          refine JA_step [2] (by kernel_rfl) (by simp) ⟨⟨_, rfl, ?_⟩, trivial⟩
          refine JL_store (vs := [_]) 2 ty24 rfl rfl rfl (AllOne.cons rfl AllOne.nil) rfl (Nat.le_of_ble_eq_true rfl) ?_
          refine JL_nil_up 178 [box _ _ [_], box _ _ [_], box _ _ [_], box _ _ [_]] [_, _, _, _] rfl rfl (by simp only [nrmF]; rfl) rfl rfl ?_
          refine JE_nextA ?_
          refine JA_step [3] (by kernel_rfl) (by simp) ⟨⟨_, rfl, ?_⟩, trivial⟩
          refine JL_store (vs := [_]) 3 ty24 rfl rfl rfl (AllOne.cons rfl AllOne.nil) rfl (Nat.le_of_ble_eq_true rfl) ?_
          refine JL_nil_up 178 [box _ _ [_], box _ _ [_], box _ _ [_], box _ _ [_]] [_, _, _, _] rfl rfl (by simp only [nrmF]; rfl) rfl rfl ?_
          refine JE_nextA ?_
          refine JA_step [4] (by kernel_rfl) (by simp) ⟨⟨_, rfl, ?_⟩, trivial⟩
          refine JL_assign rfl ?_
          refine JL_nil_up 178 [box _ _ [_], box _ _ [_], box _ _ [_], box _ _ [_]] [_, _, _, _] rfl rfl (by simp only [nrmF]; rfl) rfl rfl ?_
          refine JE_nextA ?_
          refine JA_end (by kernel_rfl) ?_
          refine JE_then ?_
          refine JC_ret ?_
          refine JE_then_ret ?_
          have hlt : x1 < x2 := cmpN_neg.1 h34
          refine JE_nilView ?_
          refine JE_ret (vs := [_, _, _]) [vCells none (u32s []), vCells ad21 (u32s (limbsOf (x1)))] Tryd.results97 ⟨RV.cell (vs := [_]) 2 ty24 rfl rfl ⟨rfl, trivial⟩, RV.cell (vs := [_]) 3 ty24 rfl rfl ⟨rfl, trivial⟩, rfl, rfl⟩ ?_ ?_
          · exact ⟨none, 0, ad21, cap21, by rw [Nat.div_eq_of_lt hlt, Nat.mod_eq_of_lt hlt, limbsOf_zero]; rfl, by rw [Nat.div_eq_of_lt hlt, limbsOf_zero]; exact Nat.le_refl _, by omega, by rw [Nat.mod_eq_of_lt hlt]; exact hk21, hm21, by rw [Nat.div_eq_of_lt hlt, Nat.mod_eq_of_lt hlt, limbsOf_zero]⟩
          · exact (all_cons (by repeat (first | with_reducible exact mm0 | refine mmS ?_)) (all_cons (by repeat (first | with_reducible exact mm0 | refine mmS ?_)) all_nil))
        · refine JL_store (vs := [_]) 2 ty24 rfl rfl rfl (AllOne.cons rfl AllOne.nil) rfl (Nat.le_of_ble_eq_true rfl) ?_
          refine JL_nil_up 178 [box _ _ [_], box _ _ [_], box _ _ [_], box _ _ [_]] [_, _, _, _] rfl rfl (by simp only [nrmF]; rfl) rfl rfl ?_
          refine JE_nextA ?_
          refine JA_step [1] (by kernel_rfl) (by simp) ⟨⟨_, rfl, ?_⟩, trivial⟩
          refine JL_loadA (vs := [_]) 0 ty24 rfl rfl ⟨rfl, trivial⟩ ?_
          refine JL_nil_up 178 [box _ _ [_], box _ _ [_], box _ _ [_], box _ _ [_]] [_, _, _, _] rfl rfl (by simp only [nrmF]; rfl) rfl rfl ?_
          refine JE_nextA ?_
          refine JA_step [3] (by kernel_rfl) (by simp) ⟨⟨_, rfl, ?_⟩, trivial⟩
          refine JL_store (vs := [_]) 3 ty24 rfl rfl rfl (AllOne.cons rfl AllOne.nil) rfl (Nat.le_of_ble_eq_true rfl) ?_
          refine JL_nil_up 178 [box _ _ [_], box _ _ [_], box _ _ [_], box _ _ [_]] [_, _, _, _] rfl rfl (by simp only [nrmF]; rfl) rfl rfl ?_
          refine JE_nextA ?_
          refine JA_step [4] (by kernel_rfl) (by simp) ⟨⟨_, rfl, ?_⟩, trivial⟩
          refine JL_assign rfl ?_
          refine JL_nil_up 178 [box _ _ [_], box _ _ [_], box _ _ [_], box _ _ [_]] [_, _, _, _] rfl rfl (by simp only [nrmF]; rfl) rfl rfl ?_
          refine JE_nextA ?_
          refine JA_end (by kernel_rfl) ?_
          refine JE_then ?_
          refine JC_ret ?_
          refine JE_then_ret ?_
          have hlt : x1 < x2 := cmpN_neg.1 h34
          refine JE_nilView ?_
          refine JE_ret (vs := [_, _, _]) [vCells none (u32s []), vCells ad21 (u32s (limbsOf (x1)))] Tryd.results97 ⟨RV.cell (vs := [_]) 2 ty24 rfl rfl ⟨rfl, trivial⟩, RV.cell (vs := [_]) 3 ty24 rfl rfl ⟨rfl, trivial⟩, rfl, rfl⟩ ?_ ?_
          · exact ⟨none, 0, ad21, cap21, by rw [Nat.div_eq_of_lt hlt, Nat.mod_eq_of_lt hlt, limbsOf_zero]; rfl, by rw [Nat.div_eq_of_lt hlt, limbsOf_zero]; exact Nat.le_refl _, by omega, by rw [Nat.mod_eq_of_lt hlt]; exact hk21, hm21, by rw [Nat.div_eq_of_lt hlt, Nat.mod_eq_of_lt hlt, limbsOf_zero]⟩
          · exact (all_cons (by repeat (first | with_reducible exact mm0 | refine mmS ?_)) (all_cons (by repeat (first | with_reducible exact mm0 | refine mmS ?_)) all_nil))
      · refine JL_loadA (vs := [_]) 0 ty24 rfl rfl ⟨rfl, trivial⟩ ?_
        refine JL_nil_up 178 [box _ _ [_], box _ _ [_], box _ _ [_], box _ _ [_]] [_, _, _, _] rfl rfl (by simp only [nrmF]; rfl) rfl rfl ?_
        refine JE_nextA ?_
        refine JA_step [0] (by kernel_rfl) (by simp) ⟨⟨_, rfl, ?_⟩, trivial⟩
        refine JL_build (cs := [_]) [] st24 rfl rfl ?_
        refine JL_nil_up 178 [box _ _ [_], box _ _ [_], box _ _ [_], box _ _ [_]] [_, _, _, _] rfl rfl (by simp only [nrmF]; rfl) rfl rfl ?_
        refine JE_nextA ?_
        refine JA_step [2] (by kernel_rfl) (by simp) ⟨⟨_, rfl, ?_⟩, trivial⟩
        refine JL_store (vs := [_]) 2 ty24 rfl rfl rfl (AllOne.cons rfl AllOne.nil) rfl (Nat.le_of_ble_eq_true rfl) ?_
        refine JL_nil_up 178 [box _ _ [_], box _ _ [_], box _ _ [_], box _ _ [_]] [_, _, _, _] rfl rfl (by simp only [nrmF]; rfl) rfl rfl ?_
        refine JE_nextA ?_
        refine JA_step [3] (by kernel_rfl) (by simp) ⟨⟨_, rfl, ?_⟩, trivial⟩
        refine JL_store (vs := [_]) 3 ty24 rfl rfl rfl (AllOne.cons rfl AllOne.nil) rfl (Nat.le_of_ble_eq_true rfl) ?_
        refine JL_nil_up 178 [box _ _ [_], box _ _ [_], box _ _ [_], box _ _ [_]] [_, _, _, _] rfl rfl (by simp only [nrmF]; rfl) rfl rfl ?_
        refine JE_nextA ?_
        refine JA_step [4] (by kernel_rfl) (by simp) ⟨⟨_, rfl, ?_⟩, trivial⟩
        refine JL_assign rfl ?_
        refine JL_nil_up 178 [box _ _ [_], box _ _ [_], box _ _ [_], box _ _ [_]] [_, _, _, _] rfl rfl (by simp only [nrmF]; rfl) rfl rfl ?_
        refine JE_nextA ?_
        refine JA_end (by kernel_rfl) ?_
        refine JE_then ?_
        refine JC_ret ?_
        refine JE_then_ret ?_
        have hlt : x1 < x2 := cmpN_neg.1 h34
        refine JE_nilView ?_
        refine JE_ret (vs := [_, _, _]) [vCells none (u32s []), vCells ad21 (u32s (limbsOf (x1)))] Tryd.results97 ⟨RV.cell (vs := [_]) 2 ty24 rfl rfl ⟨rfl, trivial⟩, RV.cell (vs := [_]) 3 ty24 rfl rfl ⟨rfl, trivial⟩, rfl, rfl⟩ ?_ ?_
        · exact ⟨none, 0, ad21, cap21, by rw [Nat.div_eq_of_lt hlt, Nat.mod_eq_of_lt hlt, limbsOf_zero]; rfl, by rw [Nat.div_eq_of_lt hlt, limbsOf_zero]; exact Nat.le_refl _, by omega, by rw [Nat.mod_eq_of_lt hlt]; exact hk21, hm21, by rw [Nat.div_eq_of_lt hlt, Nat.mod_eq_of_lt hlt, limbsOf_zero]⟩
        · exact (all_cons (by repeat (first | with_reducible exact mm0 | refine mmS ?_)) (all_cons (by repeat (first | with_reducible exact mm0 | refine mmS ?_)) all_nil))
    · refine JL_done_up 178 [box _ _ [_], box _ _ [_], box _ _ [_], box _ _ [_]] [_, _, _, _] rfl rfl (by simp only [nrmF]; rfl) rfl rfl ?_
      refine JC_false rfl ?_
      refine JC_skip ?_
      refine JE_then ?_
      refine JC_seq ?_
      refine JC_region ?_
      refine JL_fieldAddr fo24_0 rfl ?_
      refine JL_load 1 ty22 rfl rfl rfl ?_
      refine JL_move rfl ?_
      refine JL_sub_to rfl rfl (IntWalk.i64_in _ (by omega)) ?_
      have hle : x2 ≤ x1 := by have := cmpN_neg (n := x1) (m := x2); omega
      have htop := limbsOf_top hpos
      have htop9 := (dig_limbsOf x2).getD ((limbsOf x2).length - 1)
      obtain ⟨tp, htp⟩ : ∃ tp, (limbsOf x2).getD ((limbsOf x2).length - 1) 0 = tp := ⟨_, rfl⟩
      rw [htp] at htop htop9
      refine JL_idx ((limbsOf x2).length - 1) sl22 rfl rfl (by omega) (by omega) (by first | exact Reads.view (by repeat (first | with_reducible exact mm0 | refine mmS ?_))) (by first | (rw [u32s_length]; omega) | (rw [i64s_length]; omega)) ?_
      refine JL_loadE ty87 rfl (by first | exact Reads.view (by repeat (first | with_reducible exact mm0 | refine mmS ?_))) (u32s_get (by omega)) ?_
      rw [htp]
      refine JL_convInt us87 it94 rfl (IntWalk.u64_in _ (by omega)) ?_
      refine JL_add_to rfl rfl (IntWalk.u64_in _ (by omega)) ?_
      rw [show (((tp : Nat) : Int) + 1 : Int) = ((tp + 1 : Nat) : Int) from rfl]
      obtain ⟨sc, hsc⟩ : ∃ sc, 1000000000 / (tp + 1) = sc := ⟨_, rfl⟩
      have hs0 : 0 < sc := by rw [← hsc]; exact (scale_pos (by omega)).1
      have hs9 : sc < 1000000000 := by rw [← hsc]; exact scale_dig htop
      refine JL_quo_to rfl rfl (by omega) (quo_nat_u64 1000000000 (tp + 1) (by decide)) ?_
      rw [hsc]
      obtain ⟨N, hN⟩ : ∃ N, x1 * sc = N := ⟨_, rfl⟩
      obtain ⟨V, hV⟩ : ∃ V, x2 * sc = V := ⟨_, rfl⟩
      have hscl : (limbsOf sc).length ≤ 1 := limbsOf_len_of_lt (by omega)
      have hNl := len_limbsOf_mul x1 sc
      rw [hN] at hNl
      have hVlen := scale_len hpos htp hsc hs0
      rw [hV] at hVlen
      have hV0 : 0 < V := by rw [← hV]; exact Nat.mul_pos hpos hs0
      have htV := (dig_limbsOf V).getD ((limbsOf x2).length - 1)
      have htV1 := top1' (x := V) (k := (limbsOf x2).length - 1) rfl (by omega)
      have htV0 := limbsOf_top hV0
      rw [hVlen] at htV0
      obtain ⟨vt, hvt⟩ : ∃ vt, (limbsOf V).getD ((limbsOf x2).length - 1) 0 = vt := ⟨_, rfl⟩
      rw [hvt] at htV htV0 htV1
      refine JL_assign rfl ?_
      refine JL_done_up 178 [box _ _ [_], box _ _ [_], box _ _ [_], box _ _ [_]] [_, _, _, _] rfl rfl (by simp only [nrmF]; rfl) rfl rfl ?_
      refine JC_seq ?_
      refine JC_drawT mixed 5 [spV 46 [] _, spV 47 [] _, spC 48 [1] _, spC 49 [0, 2] _, spA 9 24 [.slice none 0 0]] ⟨OblS_V (fun vals ex ψ => (by
          refine JL_normQ ⟨178, [(46, _), (47, _), (48, _), (49, _), (9, _)], _⟩ (_ :: _ :: _ :: _ :: ψ) rfl rfl ?_
          refine JL_loadA (vs := [_]) 0 ty24 rfl rfl ⟨rfl, trivial⟩ ?_
          exact JL_nil (JE_stepV rfl ss0))), OblS_V (fun vals ex ψ => (by
          refine JL_normQ ⟨178, [(46, _), (47, _), (48, _), (49, _), (9, _)], _⟩ (_ :: _ :: _ :: _ :: ψ) rfl rfl ?_
          refine JL_move rfl ?_
          exact JL_nil (JE_stepV rfl ss0))), OblS_C (fun vals ex ψ => (by
          refine JL_normQ ⟨178, [(46, _), (47, _), (48, _), (49, _), (9, _)], _⟩ (_ :: _ :: _ :: _ :: ψ) rfl rfl ?_
          refine JL_callF' Asks.nil (rof_con sc (by omega)) rfl ca99 ⟨rfl, rfl⟩ ?_
          exact fun v φo hP => JL_nil (JE_stepC φo rfl hP (fun p hp => mapB_l hp) (fun p hp => mapB_r (ss0 p hp))))), OblS_C (fun vals ex ψ => (by
          refine JL_normQ ⟨178, [(46, _), (47, _), (48, _), (49, _), (9, _)], _⟩ (_ :: _ :: _ :: _ :: _ :: ψ) rfl rfl ?_
          generalize vals 2 = x48
          refine JL_usePost mm0 (fun φo hP => ?_)
          obtain ⟨ad48, cap48, rfl, hk48, hm48, rfl⟩ := hP
          refine JL_norm _ _ (_ :: _ :: _ :: _ :: _ :: _ :: ψ) rfl rfl rfl ?_
          refine JL_callF' (Asks.cons (holds_of_mem (by repeat (first | with_reducible exact mm0 | refine mmS ?_))) (Asks.cons (holds_of_mem (by repeat (first | with_reducible exact mm0 | refine mmS ?_))) Asks.nil)) (rmul_con _ _ _ _ _ (NIn.of (by omega)) _ _ _ _ _ (NIn.of (by omega)) N hN) rfl ca68 ⟨rfl, rfl, rfl⟩ ?_
          exact fun v φo hP => JL_nil (JE_stepC φo rfl hP (fun p hp => mapB_l hp) (fun p hp => mapB_r ((ssS ss0) p hp))))), OblS_al rfl z24, trivial⟩ (by kernel_rfl) (fun vals bs => ?_)
      refine JL_normL [_] ⟨178, [(46, _), (47, _), (48, _), (49, _), (9, _)], _⟩ [box _ _ [_], box _ _ [_], box _ _ [_], box _ _ [_], box _ _ [_]] [_, _, _, _, _, _] rfl rfl rfl rfl ?_
      generalize vals (0 + 1 + 1) = x48
      generalize vals (0 + 1 + 1 + 1) = x49
      generalize bs (0 + 1 + 1 + 1 + 1) = b9
      refine JL_usePost (mmS mm0) (fun φo hP => ?_)
      obtain ⟨ad49, cap49, rfl, hk49, hm49, rfl⟩ := hP
      refine JL_norm _ [box _ _ [_], box _ _ [_], box _ _ [_], box _ _ [_], box _ _ [_]] [_, _, _, _, _, _, _] rfl rfl rfl ?_
      refine JL_store (vs := [_]) 4 ty24 rfl rfl rfl (AllOne.cons rfl AllOne.nil) rfl (Nat.le_of_ble_eq_true rfl) ?_
      refine JL_done_up 178 [box _ _ [_], box _ _ [_], box _ _ [_], box _ _ [_], box _ _ [_]] [_, _, _, _, _, _, _] rfl rfl (by simp only [nrmF]; rfl) rfl rfl ?_
      refine JC_seq ?_
      refine JC_drawT mixed 5 [spV 50 [] _, spV 51 [] _, spC 52 [1] _, spC 53 [0, 2] _, spA 10 24 [.slice none 0 0]] ⟨OblS_V (fun vals ex ψ => (by
          refine JL_normQ ⟨178, [(50, _), (51, _), (52, _), (53, _), (10, _)], _⟩ (_ :: _ :: _ :: _ :: _ :: _ :: _ :: ψ) rfl rfl ?_
          refine JL_loadA (vs := [_]) 1 ty24 rfl rfl ⟨rfl, trivial⟩ ?_
          exact JL_nil (JE_stepV rfl ss0))), OblS_V (fun vals ex ψ => (by
          refine JL_normQ ⟨178, [(50, _), (51, _), (52, _), (53, _), (10, _)], _⟩ (_ :: _ :: _ :: _ :: _ :: _ :: _ :: ψ) rfl rfl ?_
          refine JL_move rfl ?_
          exact JL_nil (JE_stepV rfl ss0))), OblS_C (fun vals ex ψ => (by
          refine JL_normQ ⟨178, [(50, _), (51, _), (52, _), (53, _), (10, _)], _⟩ (_ :: _ :: _ :: _ :: _ :: _ :: _ :: ψ) rfl rfl ?_
          refine JL_callF' Asks.nil (rof_con sc (by omega)) rfl ca99 ⟨rfl, rfl⟩ ?_
          exact fun v φo hP => JL_nil (JE_stepC φo rfl hP (fun p hp => mapB_l hp) (fun p hp => mapB_r (ss0 p hp))))), OblS_C (fun vals ex ψ => (by
          refine JL_normQ ⟨178, [(50, _), (51, _), (52, _), (53, _), (10, _)], _⟩ (_ :: _ :: _ :: _ :: _ :: _ :: _ :: _ :: ψ) rfl rfl ?_
          generalize vals 2 = x52
          refine JL_usePost mm0 (fun φo hP => ?_)
          obtain ⟨ad52, cap52, rfl, hk52, hm52, rfl⟩ := hP
          refine JL_norm _ _ (_ :: _ :: _ :: _ :: _ :: _ :: _ :: _ :: _ :: ψ) rfl rfl rfl ?_
          refine JL_callF' (Asks.cons (holds_of_mem (by repeat (first | with_reducible exact mm0 | refine mmS ?_))) (Asks.cons (holds_of_mem (by repeat (first | with_reducible exact mm0 | refine mmS ?_))) Asks.nil)) (rmul_con _ _ _ _ _ (NIn.of (by omega)) _ _ _ _ _ (NIn.of (by omega)) V hV) rfl ca68 ⟨rfl, rfl, rfl⟩ ?_
          exact fun v φo hP => JL_nil (JE_stepC φo rfl hP (fun p hp => mapB_l hp) (fun p hp => mapB_r ((ssS ss0) p hp))))), OblS_al rfl z24, trivial⟩ (by kernel_rfl) (fun vals bs => ?_)
      refine JL_normL [_] ⟨178, [(50, _), (51, _), (52, _), (53, _), (10, _)], _⟩ [box _ _ [_], box _ _ [_], box _ _ [_], box _ _ [_], box _ _ [_], box _ _ [_]] [_, _, _, _, _, _, _, _, _] rfl rfl rfl rfl ?_
      generalize vals (0 + 1 + 1) = x52
      generalize vals (0 + 1 + 1 + 1) = x53
      generalize bs (0 + 1 + 1 + 1 + 1) = b10
      refine JL_usePost (mmS mm0) (fun φo hP => ?_)
      obtain ⟨ad53, cap53, rfl, hk53, hm53, rfl⟩ := hP
      refine JL_norm _ [box _ _ [_], box _ _ [_], box _ _ [_], box _ _ [_], box _ _ [_], box _ _ [_]] [_, _, _, _, _, _, _, _, _, _] rfl rfl rfl ?_
      refine JL_store (vs := [_]) 5 ty24 rfl rfl rfl (AllOne.cons rfl AllOne.nil) rfl (Nat.le_of_ble_eq_true rfl) ?_
      refine JL_done_up 178 [box _ _ [_], box _ _ [_], box _ _ [_], box _ _ [_], box _ _ [_], box _ _ [_]] [_, _, _, _, _, _, _, _, _, _] rfl rfl (by simp only [nrmF]; rfl) rfl rfl ?_
      refine JC_seq ?_
      refine JC_region ?_
      refine JL_fieldAddr fo24_0 rfl ?_
      refine JL_load 5 ty22 rfl rfl rfl ?_
      refine JL_move rfl ?_
      refine JL_sub_to rfl rfl (IntWalk.i64_in _ (by omega)) ?_
      refine JL_idx ((limbsOf x2).length - 1) sl22 rfl rfl (by omega) (by omega) (by first | exact Reads.view (by repeat (first | with_reducible exact mm0 | refine mmS ?_))) (by first | (rw [u32s_length]; omega) | (rw [i64s_length]; omega)) ?_
      refine JL_loadE ty87 rfl (by first | exact Reads.view (by repeat (first | with_reducible exact mm0 | refine mmS ?_))) (u32s_get (by omega)) ?_
      rw [hvt]
      refine JL_convInt us87 it94 rfl (IntWalk.u64_in _ (by omega)) ?_
      refine JL_assign rfl ?_
      refine JL_done_up 178 [box _ _ [_], box _ _ [_], box _ _ [_], box _ _ [_], box _ _ [_], box _ _ [_]] [_, _, _, _, _, _, _, _, _, _] rfl rfl (by simp only [nrmF]; rfl) rfl rfl ?_
      refine JC_seq ?_
      refine JC_region ?_
      refine JL_fieldAddr fo24_0 rfl ?_
      refine JL_load 4 ty22 rfl rfl rfl ?_
      refine JL_len sl22 rfl ?_
      refine JL_make1 (limbsOf N).length (limbsOf N).length sl22 rfl rfl rfl rfl (by omega) (by omega) (by omega) (fun g64 => ?_)
      rw [u32s_replicate]
      refine JL_assign rfl ?_
      refine JL_done_up 178 [box _ _ [_], box _ _ [_], box _ _ [_], box _ _ [_], box _ _ [_], box _ _ [_], osl _ _ _ _ _ _] [_, _, _, _, _, _, _, _, _, _] rfl rfl (by simp only [nrmF]; rfl) rfl rfl ?_
      refine JC_seq ?_
      refine JC_region ?_
      refine JL_build (cs := [_]) [] st24 rfl rfl ?_
      refine JL_alloc z24 (fun b13 => ?_)
      refine JL_store (vs := [_]) 7 ty24 rfl rfl rfl (AllOne.cons rfl AllOne.nil) rfl (Nat.le_of_ble_eq_true rfl) ?_
      refine JL_done_up 178 [box _ _ [_], box _ _ [_], box _ _ [_], box _ _ [_], box _ _ [_], box _ _ [_], osl _ _ _ _ _ _, box _ _ [_]] [_, _, _, _, _, _, _, _, _, _] rfl rfl (by simp only [nrmF]; rfl) rfl rfl ?_
      refine JC_seq ?_
      refine JC_seq ?_
      refine JC_region ?_
      refine JL_fieldAddr fo24_0 rfl ?_
      refine JL_load 4 ty22 rfl rfl rfl ?_
      refine JL_len sl22 rfl ?_
      refine JL_sub_to rfl rfl (IntWalk.i64_in _ (by omega)) ?_
      refine JL_assign rfl ?_
      refine JL_done_up 178 [box _ _ [_], box _ _ [_], box _ _ [_], box _ _ [_], box _ _ [_], box _ _ [_], osl _ _ _ _ _ _, box _ _ [_]] [_, _, _, _, _, _, _, _, _, _] rfl rfl (by simp only [nrmF]; rfl) rfl rfl ?_
      refine JC_block ?_
      refine JC_nilView ?_
      refine JC_loopS ((Nat) × (Option Addr) × (Nat) × (Nat) × (Nat) × (List Nat) × (List Nat)) (fun (jj, ra, rn, rc, R, RL, q) => RInv N V (limbsOf N).length (limbsOf N) R q jj ∧ RL = limbsOf R ∧ (limbsOf R).length = rn ∧ jj ≤ (limbsOf N).length) (fun (jj, ra, rn, rc, R, RL, q) => jj) (fun u (jj, ra, rn, rc, R, RL, q) => [none, none, none, none, none, none, none, none, none, none, none, none, none, none, some (.int .i64 ((jj : Nat) - 1)), some (u 15), some (u 16), none, none, none, none, none, none, none, none, none, none, none, none, none, none, none, none, none, none, none, none, none, none, none, none, none, none, none, none, none, none, none, none, none, none, none, none, none, none, none, none, none, none, none, none, none, none, none, none, none, none, none, none, none, some (u 70), some (u 71), some (u 72), some (u 73), some (u 74), some (u 75), some (u 76), some (u 77), some (u 78), some (u 79), some (u 80), some (u 81), some (u 82), some (u 83), some (u 84), some (u 85), some (u 86), some (u 87), some (u 88), some (u 89), some (u 90), some (u 91), some (u 92), some (u 93), some (u 94), some (u 95), some (u 96), some (u 97), some (u 98), some (u 99), some (u 100), some (u 101), some (u 102), some (u 103), some (u 104), some (u 105), some (u 106), some (u 107), some (u 108), some (u 109), some (u 110), some (u 111), some (u 112), some (u 113), some (u 114), some (u 115), some (u 116), some (u 117), some (u 118), some (u 119), some (u 120), some (u 121), some (u 122), some (u 123), some (u 124), some (u 125), some (u 126), some (u 127), some (u 128), some (u 129), some (u 130), some (u 131), some (u 132), some (u 133), some (u 134), some (u 135), some (u 136), some (u 137), some (u 138), some (u 139), some (u 140), none, none, none, none, none, none, none, none, none, none, none, none, none, none, none, none, none, none, none, none, none, none, none, none, none, none, none, none, none, none, none, none, none, none, none, none, none]) (fun (jj, ra, rn, rc, R, RL, q) => [none, none, none, none, none, none, some (osl (some ⟨g64, 0, none⟩) (limbsOf N).length (limbsOf N).length 87 1 (u32s q)), some (box b13 24 [.slice ra rn rc])]) (fun (jj, ra, rn, rc, R, RL, q) => [(true, vCells ra (u32s RL))]) ((limbsOf N).length, none, 0, 0, 0, [], List.replicate (limbsOf N).length 0) (by kernel_rfl) ?_ (by kernel_rfl) ?_ ?_
      · exact ⟨RInv.start (dig_limbsOf N) (val_limbsOf N).symm hV0, limbsOf_zero.symm, by rw [limbsOf_zero]; rfl, Nat.le_refl _⟩
      · exact (subset_cons (by repeat (first | with_reducible exact mm0 | refine mmS ?_)) subset_nil)
      intro u i hC
      obtain ⟨jj, ra, rn, rc, R, RL, q⟩ := i
      obtain ⟨hI, rfl, rfl, hjj⟩ := hC
      refine JC_norm ⟨178, [], [_, _, _, _, _, _, _, _, _, _, _, _, _, _, _, _, _, _, _, _, _, _, _, _, _, _, _, _, _, _, _, _, _, _, _, _, _, _, _, _, _, _, _, _, _, _, _, _, _, _, _, _, _, _, _, _, _, _, _, _, _, _, _, _, _, _, _, _, _, _, _, _, _, _, _, _, _, _, _, _, _, _, _, _, _, _, _, _, _, _, _, _, _, _, _, _, _, _, _, _, _, _, _, _, _, _, _, _, _, _, _, _, _, _, _, _, _, _, _, _, _, _, _, _, _, _, _, _, _, _, _, _, _, _, _, _, _, _, _, _, _, _, _, _, _, _, _, _, _, _, _, _, _, _, _, _, _, _, _, _, _, _, _, _, _, _, _, _, _, _, _, _, _, _, _, _, _, _]⟩ [box _ _ [_], box _ _ [_], box _ _ [_], box _ _ [_], box _ _ [_], box _ _ [_], osl _ _ _ _ _ _, box _ _ [_]] [_, _, _, _, _, _, _, _, _, _, _, _] rfl rfl rfl ?_
      have hRl := len_limbsOf_le (Nat.le_of_lt hI.lt)
      refine JC_seq ?_
      refine JC_seq ?_
      refine JC_region ?_
      refine JL_move rfl ?_
      refine JL_geq rfl rfl ?_
      refine JL_split (fun h71 => ?_) (fun h71 => ?_)
      · have hI1 : RInv N V (limbsOf N).length (limbsOf N) R q (jj - 1 + 1) := by rw [Nat.sub_add_cancel (by omega)]; exact hI
        have hPV := hI1.part_lt (jj - 1)
        have hX := (dig_limbsOf N).getD (jj - 1)
        obtain ⟨P, hP⟩ : ∃ P, (limbsOf N).getD (jj - 1) 0 + 1000000000 * R = P := ⟨_, rfl⟩
        rw [hP] at hPV
        have hPl := part_len hPV
        have htP := (dig_limbsOf P).getD (limbsOf x2).length
        have htP2 := (dig_limbsOf P).getD ((limbsOf x2).length - 1)
        refine JL_done_up 178 [box _ _ [_], box _ _ [_], box _ _ [_], box _ _ [_], box _ _ [_], box _ _ [_], osl _ _ _ _ _ _, box _ _ [_]] [_, _, _, _, _, _, _, _, _, _, _, _] rfl rfl (by simp only [nrmF]; rfl) rfl rfl ?_
        refine JC_true rfl ?_
        refine JC_skip ?_
        refine JE_then ?_
        refine JC_seq ?_
        refine JC_block ?_
        refine JC_seq ?_
        refine JC_drawT mixed 8 [spV 74 [] _, spV 75 [0] _, spV 76 [] _, spV 77 [1, 2] _, spV 78 [3] _, spC 79 [4] (fun v φo => ∃ ad, v = .slice ad 1 1 ∧ φo = [vCells ad (u32s [(limbsOf N).getD (jj - 1) 0])]), spV 80 [] _, spV 81 [6] _] ⟨OblS_V (fun vals ex ψ => (by
            refine JL_normQ ⟨178, [(74, _), (75, _), (76, _), (77, _), (78, _), (79, _), (80, _), (81, _)], _⟩ (_ :: _ :: _ :: _ :: _ :: _ :: _ :: _ :: _ :: _ :: _ :: _ :: ψ) rfl rfl ?_
            refine JL_fieldAddr fo24_0 rfl ?_
            exact JL_nil (JE_stepV rfl ss0))), OblS_V (fun vals ex ψ => (by
            refine JL_normQ ⟨178, [(74, _), (75, _), (76, _), (77, _), (78, _), (79, _), (80, _), (81, _)], _⟩ (_ :: _ :: _ :: _ :: _ :: _ :: _ :: _ :: _ :: _ :: _ :: _ :: ψ) rfl rfl ?_
            refine JL_load 4 ty22 rfl rfl rfl ?_
            exact JL_nil (JE_stepV rfl ss0))), OblS_V (fun vals ex ψ => (by
            refine JL_normQ ⟨178, [(74, _), (75, _), (76, _), (77, _), (78, _), (79, _), (80, _), (81, _)], _⟩ (_ :: _ :: _ :: _ :: _ :: _ :: _ :: _ :: _ :: _ :: _ :: _ :: ψ) rfl rfl ?_
            refine JL_move rfl ?_
            exact JL_nil (JE_stepV rfl ss0))), OblS_V (fun vals ex ψ => (by
            refine JL_normQ ⟨178, [(74, _), (75, _), (76, _), (77, _), (78, _), (79, _), (80, _), (81, _)], _⟩ (_ :: _ :: _ :: _ :: _ :: _ :: _ :: _ :: _ :: _ :: _ :: _ :: ψ) rfl rfl ?_
            refine JL_idx (jj - 1) sl22 rfl rfl (by omega) (by omega) (by first | exact Reads.view (by repeat (first | with_reducible exact mm0 | refine mmS ?_)) | (exact Reads.own 6 rfl)) (by first | (rw [u32s_length]; omega) | (rw [i64s_length]; omega)) ?_
            exact JL_nil (JE_stepV rfl ss0))), OblS_V (fun vals ex ψ => (by
            refine JL_normQ ⟨178, [(74, _), (75, _), (76, _), (77, _), (78, _), (79, _), (80, _), (81, _)], _⟩ (_ :: _ :: _ :: _ :: _ :: _ :: _ :: _ :: _ :: _ :: _ :: _ :: ψ) rfl rfl ?_
            refine JL_loadE ty87 rfl (by first | exact Reads.view (by repeat (first | with_reducible exact mm0 | refine mmS ?_)) | (exact Reads.own 6 rfl)) (u32s_get (by omega)) ?_
            exact JL_nil (JE_stepV rfl ss0))), OblS_C (fun vals ex ψ => (by
            refine JL_normQ ⟨178, [(74, _), (75, _), (76, _), (77, _), (78, _), (79, _), (80, _), (81, _)], _⟩ (_ :: _ :: _ :: _ :: _ :: _ :: _ :: _ :: _ :: _ :: _ :: _ :: ψ) rfl rfl ?_
            refine JL_build1U ((limbsOf N).getD (jj - 1) 0) sl22 rfl (fun g79 => ?_)
            refine JL_giveLast ?_
            exact JL_nil (JE_stepC [vCells (some ⟨g79, 0, none⟩) (u32s [(limbsOf N).getD (jj - 1) 0])] rfl ⟨_, rfl, rfl⟩ (all_cons (by repeat (first | with_reducible exact mm0 | refine mmS ?_)) all_nil) (ssS ss0)))), OblS_V (fun vals ex ψ => (by
            refine JL_normQ ⟨178, [(74, _), (75, _), (76, _), (77, _), (78, _), (79, _), (80, _), (81, _)], _⟩ (_ :: _ :: _ :: _ :: _ :: _ :: _ :: _ :: _ :: _ :: _ :: _ :: ψ) rfl rfl ?_
            refine JL_fieldAddr fo24_0 rfl ?_
            exact JL_nil (JE_stepV rfl ss0))), OblS_V (fun vals ex ψ => (by
            refine JL_normQ ⟨178, [(74, _), (75, _), (76, _), (77, _), (78, _), (79, _), (80, _), (81, _)], _⟩ (_ :: _ :: _ :: _ :: _ :: _ :: _ :: _ :: _ :: _ :: _ :: _ :: ψ) rfl rfl ?_
            refine JL_load 7 ty22 rfl rfl rfl ?_
            exact JL_nil (JE_stepV rfl ss0))), trivial⟩ (by kernel_rfl) (fun vals bs => ?_)
        refine JL_normL [_, _, _, _] ⟨178, [(74, _), (75, _), (76, _), (77, _), (78, _), (79, _), (80, _), (81, _)], _⟩ [box _ _ [_], box _ _ [_], box _ _ [_], box _ _ [_], box _ _ [_], box _ _ [_], osl _ _ _ _ _ _, box _ _ [_]] [_, _, _, _, _, _, _, _, _, _, _, _, _] rfl rfl rfl rfl ?_
        generalize vals (0 + 1 + 1 + 1 + 1 + 1) = x79
        refine JL_usePost mm0 (fun φo hP => ?_)
        obtain ⟨ad79, rfl, rfl⟩ := hP
        refine JL_norm _ [box _ _ [_], box _ _ [_], box _ _ [_], box _ _ [_], box _ _ [_], box _ _ [_], osl _ _ _ _ _ _, box _ _ [_]] [_, _, _, _, _, _, _, _, _, _, _, _, _, _] rfl rfl rfl ?_
        refine JL_appendVU (L := [(limbsOf N).getD (jj - 1) 0]) (M := limbsOf R) List.mem_cons_self (by first | exact Reads.view (by repeat (first | with_reducible exact mm0 | refine mmS ?_)) | (exact Reads.own 6 rfl)) sl22 rfl rfl rfl rfl rfl (by omega) (by omega) (fun ad82 cap82 hc82 => ?_)
        refine JL_build (cs := [_]) [(0, [_])] st24 ⟨⟨rfl, _, rfl, rfl⟩, rfl⟩ rfl ?_
        refine JL_callF' (Asks.cons (by first | exact holds_of_mem (by repeat (first | with_reducible exact mm0 | refine mmS ?_)) | (exact holds_of_own 6 rfl)) Asks.nil) (rnorm_con _ _ _ ([(limbsOf N).getD (jj - 1) 0] ++ limbsOf R) P ⟨by rw [List.length_append]; rfl, U32.ofDig ((Dig.cons (by omega) Dig.nil).append (dig_limbsOf R)), by show _ + 1000000000 * val (limbsOf R) = P; rw [val_limbsOf]; exact hP, by omega⟩) rfl ca94 ⟨rfl, rfl⟩ ?_
        rintro _ _ ⟨ad84, cap84, rfl, hk84, hm84, rfl⟩
        refine JL_store (vs := [_]) 7 ty24 rfl rfl rfl (AllOne.cons rfl AllOne.nil) rfl (Nat.le_of_ble_eq_true rfl) ?_
        refine JL_done_up 178 [box _ _ [_], box _ _ [_], box _ _ [_], box _ _ [_], box _ _ [_], box _ _ [_], osl _ _ _ _ _ _, box _ _ [_]] [_, _, _, _, _, _, _, _, _, _, _, _, _, _, _, _] rfl rfl (by simp only [nrmF]; rfl) rfl rfl ?_
        refine JC_seq ?_
        refine JC_region ?_
        refine JL_assign rfl ?_
        refine JL_done_up 178 [box _ _ [_], box _ _ [_], box _ _ [_], box _ _ [_], box _ _ [_], box _ _ [_], osl _ _ _ _ _ _, box _ _ [_]] [_, _, _, _, _, _, _, _, _, _, _, _, _, _, _, _] rfl rfl (by simp only [nrmF]; rfl) rfl rfl ?_
        refine JC_seq ?_
        refine JC_seq ?_
        refine JC_region ?_
        refine JL_fieldAddr fo24_0 rfl ?_
        refine JL_load 7 ty22 rfl rfl rfl ?_
        refine JL_len sl22 rfl ?_
        refine JL_move rfl ?_
        refine JL_gtr rfl rfl ?_
        refine JL_done_up 178 [box _ _ [_], box _ _ [_], box _ _ [_], box _ _ [_], box _ _ [_], box _ _ [_], osl _ _ _ _ _ _, box _ _ [_]] [_, _, _, _, _, _, _, _, _, _, _, _, _, _, _, _] rfl rfl (by simp only [nrmF]; rfl) rfl rfl ?_
        refine JC_cutT ((Nat)) (fun (g0 : Nat) => (g0 = (limbsOf P).getD (limbsOf x2).length 0 * 1000000000 ∧ (limbsOf P).length = (limbsOf x2).length + 1) ∨ (g0 = 0 ∧ (limbsOf P).length ≤ (limbsOf x2).length)) (fun u (g0 : Nat) => [none, none, none, none, none, none, none, none, none, none, none, none, none, none, none, some (.int .u64 (g0 : Nat)), none, none, none, none, none, none, none, none, none, none, none, none, none, none, none, none, none, none, none, none, none, none, none, none, none, none, none, none, none, none, none, none, none, none, none, none, none, none, none, none, none, none, none, none, none, none, none, none, none, none, none, none, none, none, none, none, none, none, none, none, none, none, none, none, none, none, none, none, none, none, none, none, none, none, some (u 90), some (u 91), some (u 92), some (u 93), some (u 94), some (u 95), some (u 96), none, none, none, none, none, none, none, none, none, none, none, none, none, none, none, none, none, none, none, none, none, none, none, none, none, none, none, none, none, none, none, none, none, none, none, none, none, none, none, none, none, none, none, none, none, none, none, none, none, none, none, none, none, none, none, none, none, none, none, none, none, none, none, none, none, none, none, none, none, none, none, none, none, none, none, none, none, none, none, none, none]) (fun (g0 : Nat) => [none, none, none, none, none, none, none, none]) (fun (g0 : Nat) => []) ?_ ?_
        · refine JC_cond rfl (fun hb => ?_) (fun hb => ?_)
          · have h89 := of_decide_eq_true hb
            refine JC_region ?_
            refine JL_fieldAddr fo24_0 rfl ?_
            refine JL_load 7 ty22 rfl rfl rfl ?_
            refine JL_move rfl ?_
            refine JL_idx (limbsOf x2).length sl22 rfl rfl rfl (by omega) (by first | exact Reads.view (by repeat (first | with_reducible exact mm0 | refine mmS ?_)) | (exact Reads.own 6 rfl)) (by first | (rw [u32s_length]; omega) | (rw [i64s_length]; omega)) ?_
            refine JL_loadE ty87 rfl (by first | exact Reads.view (by repeat (first | with_reducible exact mm0 | refine mmS ?_)) | (exact Reads.own 6 rfl)) (u32s_get (by omega)) ?_
            refine JL_convInt us87 it94 rfl (IntWalk.u64_in _ (by omega)) ?_
            refine JL_mul_to rfl rfl (IntWalk.u64_in _ (by omega)) ?_
            refine JL_assign rfl ?_
            refine JL_nil_up 178 [box _ _ [_], box _ _ [_], box _ _ [_], box _ _ [_], box _ _ [_], box _ _ [_], osl _ _ _ _ _ _, box _ _ [_]] [_, _, _, _, _, _, _, _, _, _, _, _, _, _, _, _] rfl rfl (by simp only [nrmF]; rfl) rfl rfl ?_
            refine JE_midS ((limbsOf P).getD (limbsOf x2).length 0 * 1000000000) (by kernel_rfl) ?_ (by kernel_rfl) ?_
            · exact .inl ⟨rfl, by omega⟩
            · exact subset_app subset_nil ss0
          · have h89 := of_decide_eq_false hb
            refine JC_skip ?_
            refine JE_midS (0) (by kernel_rfl) ?_ (by kernel_rfl) ?_
            · exact .inr ⟨rfl, by omega⟩
            · exact subset_app subset_nil ss0
        intro u g0 hg0
        refine JC_norm ⟨178, [], [_, _, _, _, _, _, _, _, _, _, _, _, _, _, _, _, _, _, _, _, _, _, _, _, _, _, _, _, _, _, _, _, _, _, _, _, _, _, _, _, _, _, _, _, _, _, _, _, _, _, _, _, _, _, _, _, _, _, _, _, _, _, _, _, _, _, _, _, _, _, _, _, _, _, _, _, _, _, _, _, _, _, _, _, _, _, _, _, _, _, _, _, _, _, _, _, _, _, _, _, _, _, _, _, _, _, _, _, _, _, _, _, _, _, _, _, _, _, _, _, _, _, _, _, _, _, _, _, _, _, _, _, _, _, _, _, _, _, _, _, _, _, _, _, _, _, _, _, _, _, _, _, _, _, _, _, _, _, _, _, _, _, _, _, _, _, _, _, _, _, _, _, _, _, _, _, _, _]⟩ [box _ _ [_], box _ _ [_], box _ _ [_], box _ _ [_], box _ _ [_], box _ _ [_], osl _ _ _ _ _ _, box _ _ [_]] [_, _, _, _, _, _, _, _, _, _, _, _, _, _, _, _] rfl rfl rfl ?_
        refine JC_seq ?_
        refine JC_seq ?_
        refine JC_region ?_
        refine JL_fieldAddr fo24_0 rfl ?_
        refine JL_load 7 ty22 rfl rfl rfl ?_
        refine JL_len sl22 rfl ?_
        refine JL_move rfl ?_
        refine JL_geq rfl rfl ?_
        refine JL_done_up 178 [box _ _ [_], box _ _ [_], box _ _ [_], box _ _ [_], box _ _ [_], box _ _ [_], osl _ _ _ _ _ _, box _ _ [_]] [_, _, _, _, _, _, _, _, _, _, _, _, _, _, _, _] rfl rfl (by simp only [nrmF]; rfl) rfl rfl ?_
        refine JC_cutT ((Nat)) (fun (g : Nat) => P / V ≤ g ∧ g ≤ 999999999) (fun u (g : Nat) => [none, none, none, none, none, none, none, none, none, none, none, none, none, none, none, some (.int .u64 (g : Nat)), none, none, none, none, none, none, none, none, none, none, none, none, none, none, none, none, none, none, none, none, none, none, none, none, none, none, none, none, none, none, none, none, none, none, none, none, none, none, none, none, none, none, none, none, none, none, none, none, none, none, none, none, none, none, none, none, none, none, none, none, none, none, none, none, none, none, none, none, none, none, none, none, none, none, none, none, none, none, none, none, none, none, none, none, none, none, some (u 102), some (u 103), some (u 104), some (u 105), some (u 106), some (u 107), some (u 108), some (u 109), some (u 110), some (u 111), some (u 112), some (u 113), none, none, none, none, none, none, none, none, none, none, none, none, none, none, none, none, none, none, none, none, none, none, none, none, none, none, none, none, none, none, none, none, none, none, none, none, none, none, none, none, none, none, none, none, none, none, none, none, none, none, none, none, none, none, none, none, none, none, none, none, none, none, none, none]) (fun (g : Nat) => [none, none, none, none, none, none, none, none]) (fun (g : Nat) => []) ?_ ?_
        · refine JC_cond rfl (fun hb => ?_) (fun hb => ?_)
          · have h101 := of_decide_eq_true hb
            refine JC_region ?_
            refine JL_move rfl ?_
            refine JL_fieldAddr fo24_0 rfl ?_
            refine JL_load 7 ty22 rfl rfl rfl ?_
            refine JL_move rfl ?_
            refine JL_sub_to rfl rfl (IntWalk.i64_in _ (by omega)) ?_
            refine JL_idx ((limbsOf x2).length - 1) sl22 rfl rfl (by omega) (by omega) (by first | exact Reads.view (by repeat (first | with_reducible exact mm0 | refine mmS ?_)) | (exact Reads.own 6 rfl)) (by first | (rw [u32s_length]; omega) | (rw [i64s_length]; omega)) ?_
            refine JL_loadE ty87 rfl (by first | exact Reads.view (by repeat (first | with_reducible exact mm0 | refine mmS ?_)) | (exact Reads.own 6 rfl)) (u32s_get (by omega)) ?_
            refine JL_convInt us87 it94 rfl (IntWalk.u64_in _ (by omega)) ?_
            obtain ⟨top, htt⟩ : ∃ top, g0 + (limbsOf P).getD ((limbsOf x2).length - 1) 0 = top := ⟨_, rfl⟩
            have htop1 : top = P / 1000000000 ^ ((limbsOf x2).length - 1) := by
              rcases hg0 with ⟨e, hl⟩ | ⟨e, hl⟩
              · rw [← htt, e]; exact top2' (by omega) (by omega) (by omega)
              · rw [← htt, e, Nat.zero_add]; exact top1' rfl (by omega)
            have htop64 : top < 18446744073709551616 := by rw [htop1, ← hVlen]; exact top_lt hV0 hPV
            have hgg := guess_ge hV0 hPV htop1 htV1 htV0
            obtain ⟨gq, hgq⟩ : ∃ gq, top / vt = gq := ⟨_, rfl⟩
            rw [hgq] at hgg
            refine JL_add_to rfl rfl (IntWalk.u64_in _ (by omega)) ?_
            rw [show (((g0 : Nat) : Int) + (((limbsOf P).getD ((limbsOf x2).length - 1) 0 : Nat) : Int) : Int) = ((top : Nat) : Int) from by omega]
            refine JL_move rfl ?_
            refine JL_quo_to rfl rfl (by omega) (quo_nat_u64 top vt htop64) ?_
            rw [hgq]
            refine JL_min rfl rfl ?_
            rw [show (if (999999999 : Int) < ((gq : Nat) : Int) then (999999999 : Int) else ((gq : Nat) : Int)) = ((min gq 999999999 : Nat) : Int) from by split <;> omega]
            refine JL_assign rfl ?_
            refine JL_nil_up 178 [box _ _ [_], box _ _ [_], box _ _ [_], box _ _ [_], box _ _ [_], box _ _ [_], osl _ _ _ _ _ _, box _ _ [_]] [_, _, _, _, _, _, _, _, _, _, _, _, _, _, _, _] rfl rfl (by simp only [nrmF]; rfl) rfl rfl ?_
            refine JE_midS (min gq 999999999) (by kernel_rfl) ?_ (by kernel_rfl) ?_
            · exact ⟨hgg, by omega⟩
            · exact subset_app subset_nil ss0
          · have h101 := of_decide_eq_false hb
            refine JC_skip ?_
            refine JE_midS (g0) (by kernel_rfl) ?_ (by kernel_rfl) ?_
            · rcases hg0 with ⟨e, hl⟩ | ⟨e, hl⟩
              · omega
              · exact ⟨by rw [Nat.div_eq_of_lt (length_limbsOf_lt (by omega))]; exact Nat.zero_le _, by omega⟩
            · exact subset_app subset_nil ss0
        intro u g hC
        obtain ⟨hgl, hg9⟩ := hC
        refine JC_norm ⟨178, [], [_, _, _, _, _, _, _, _, _, _, _, _, _, _, _, _, _, _, _, _, _, _, _, _, _, _, _, _, _, _, _, _, _, _, _, _, _, _, _, _, _, _, _, _, _, _, _, _, _, _, _, _, _, _, _, _, _, _, _, _, _, _, _, _, _, _, _, _, _, _, _, _, _, _, _, _, _, _, _, _, _, _, _, _, _, _, _, _, _, _, _, _, _, _, _, _, _, _, _, _, _, _, _, _, _, _, _, _, _, _, _, _, _, _, _, _, _, _, _, _, _, _, _, _, _, _, _, _, _, _, _, _, _, _, _, _, _, _, _, _, _, _, _, _, _, _, _, _, _, _, _, _, _, _, _, _, _, _, _, _, _, _, _, _, _, _, _, _, _, _, _, _, _, _, _, _, _, _]⟩ [box _ _ [_], box _ _ [_], box _ _ [_], box _ _ [_], box _ _ [_], box _ _ [_], osl _ _ _ _ _ _, box _ _ [_]] [_, _, _, _, _, _, _, _, _, _, _, _, _, _, _, _] rfl rfl rfl ?_
        have hg1 : (limbsOf g).length ≤ 1 := limbsOf_len_of_lt (by omega)
        refine JC_seq ?_
        refine JC_drawT mixed 5 [spV 114 [] _, spV 115 [] _, spC 116 [1] _, spC 117 [0, 2] _, spA 16 24 [.slice none 0 0]] ⟨OblS_V (fun vals ex ψ => (by
            refine JL_normQ ⟨178, [(114, _), (115, _), (116, _), (117, _), (16, _)], _⟩ (_ :: _ :: _ :: _ :: _ :: _ :: _ :: _ :: _ :: _ :: _ :: _ :: _ :: _ :: _ :: _ :: ψ) rfl rfl ?_
            refine JL_loadA (vs := [_]) 5 ty24 rfl rfl ⟨rfl, trivial⟩ ?_
            exact JL_nil (JE_stepV rfl ss0))), OblS_V (fun vals ex ψ => (by
            refine JL_normQ ⟨178, [(114, _), (115, _), (116, _), (117, _), (16, _)], _⟩ (_ :: _ :: _ :: _ :: _ :: _ :: _ :: _ :: _ :: _ :: _ :: _ :: _ :: _ :: _ :: _ :: ψ) rfl rfl ?_
            refine JL_move rfl ?_
            exact JL_nil (JE_stepV rfl ss0))), OblS_C (fun vals ex ψ => (by
            refine JL_normQ ⟨178, [(114, _), (115, _), (116, _), (117, _), (16, _)], _⟩ (_ :: _ :: _ :: _ :: _ :: _ :: _ :: _ :: _ :: _ :: _ :: _ :: _ :: _ :: _ :: _ :: ψ) rfl rfl ?_
            refine JL_callF' Asks.nil (rof_con g (by omega)) rfl ca99 ⟨rfl, rfl⟩ ?_
            exact fun v φo hP => JL_nil (JE_stepC φo rfl hP (fun p hp => mapB_l hp) (fun p hp => mapB_r (ss0 p hp))))), OblS_C (fun vals ex ψ => (by
            refine JL_normQ ⟨178, [(114, _), (115, _), (116, _), (117, _), (16, _)], _⟩ (_ :: _ :: _ :: _ :: _ :: _ :: _ :: _ :: _ :: _ :: _ :: _ :: _ :: _ :: _ :: _ :: _ :: ψ) rfl rfl ?_
            generalize vals 2 = x116
            refine JL_usePost mm0 (fun φo hP => ?_)
            obtain ⟨ad116, cap116, rfl, hk116, hm116, rfl⟩ := hP
            refine JL_norm _ _ (_ :: _ :: _ :: _ :: _ :: _ :: _ :: _ :: _ :: _ :: _ :: _ :: _ :: _ :: _ :: _ :: _ :: _ :: ψ) rfl rfl rfl ?_
            refine JL_callF' (Asks.cons (by first | exact holds_of_mem (by repeat (first | with_reducible exact mm0 | refine mmS ?_)) | (exact holds_of_own 6 rfl)) (Asks.cons (by first | exact holds_of_mem (by repeat (first | with_reducible exact mm0 | refine mmS ?_)) | (exact holds_of_own 6 rfl)) Asks.nil)) (rmul_con _ _ _ _ _ (NIn.of (by omega)) _ _ _ _ _ (NIn.of (by omega)) (V * g) rfl) rfl ca68 ⟨rfl, rfl, rfl⟩ ?_
            exact fun v φo hP => JL_nil (JE_stepC φo rfl hP (fun p hp => mapB_l hp) (fun p hp => mapB_r ((ssS ss0) p hp))))), OblS_al rfl z24, trivial⟩ (by kernel_rfl) (fun vals bs => ?_)
        refine JL_normL [_] ⟨178, [(114, _), (115, _), (116, _), (117, _), (16, _)], _⟩ [box _ _ [_], box _ _ [_], box _ _ [_], box _ _ [_], box _ _ [_], box _ _ [_], osl _ _ _ _ _ _, box _ _ [_], box _ _ [_]] [_, _, _, _, _, _, _, _, _, _, _, _, _, _, _, _, _, _] rfl rfl rfl rfl ?_
        generalize vals (0 + 1 + 1) = x116
        generalize vals (0 + 1 + 1 + 1) = x117
        generalize bs (0 + 1 + 1 + 1 + 1) = b16
        refine JL_usePost (mmS mm0) (fun φo hP => ?_)
        obtain ⟨ad117, cap117, rfl, hk117, hm117, rfl⟩ := hP
        refine JL_norm _ [box _ _ [_], box _ _ [_], box _ _ [_], box _ _ [_], box _ _ [_], box _ _ [_], osl _ _ _ _ _ _, box _ _ [_], box _ _ [_]] [_, _, _, _, _, _, _, _, _, _, _, _, _, _, _, _, _, _, _] rfl rfl rfl ?_
        refine JL_store (vs := [_]) 8 ty24 rfl rfl rfl (AllOne.cons rfl AllOne.nil) rfl (Nat.le_of_ble_eq_true rfl) ?_
        refine JL_done_up 178 [box _ _ [_], box _ _ [_], box _ _ [_], box _ _ [_], box _ _ [_], box _ _ [_], osl _ _ _ _ _ _, box _ _ [_], box _ _ [_]] [_, _, _, _, _, _, _, _, _, _, _, _, _, _, _, _, _, _, _] rfl rfl (by simp only [nrmF]; rfl) rfl rfl ?_
        refine JC_seq ?_
        refine JC_block ?_
        refine JC_loopS ((Nat) × (Option Addr) × (Nat)) (fun (gg, pa, pc) => P / V ≤ gg ∧ gg ≤ 999999999) (fun (gg, pa, pc) => gg) (fun u (gg, pa, pc) => [none, none, none, none, none, none, none, none, none, none, none, none, none, none, none, some (.int .u64 (gg : Nat)), none, none, none, none, none, none, none, none, none, none, none, none, none, none, none, none, none, none, none, none, none, none, none, none, none, none, none, none, none, none, none, none, none, none, none, none, none, none, none, none, none, none, none, none, none, none, none, none, none, none, none, none, none, none, none, none, none, none, none, none, none, none, none, none, none, none, none, none, none, none, none, none, none, none, none, none, none, none, none, none, none, none, none, none, none, none, none, none, none, none, none, none, none, none, none, none, none, none, none, none, none, none, some (u 118), some (u 119), some (u 120), some (u 121), some (u 122), some (u 123), some (u 124), some (u 125), some (u 126), some (u 127), some (u 128), some (u 129), none, none, none, none, none, none, none, none, none, none, none, none, none, none, none, none, none, none, none, none, none, none, none, none, none, none, none, none, none, none, none, none, none, none, none, none, none, none, none, none, none, none, none, none, none, none, none, none]) (fun (gg, pa, pc) => [none, none, none, none, none, none, none, none, some (box b16 24 [.slice pa (limbsOf (V * gg)).length pc])]) (fun (gg, pa, pc) => [(true, vCells pa (u32s (limbsOf (V * gg))))]) (g, ad117, cap117) (by kernel_rfl) ?_ (by kernel_rfl) ?_ ?_
        · exact ⟨hgl, hg9⟩
        · exact (subset_cons (by repeat (first | with_reducible exact mm0 | refine mmS ?_)) subset_nil)
        intro u i hC
        obtain ⟨gg, pa, pc⟩ := i
        obtain ⟨hgg1, hgg9⟩ := hC
        refine JC_norm ⟨178, [], [_, _, _, _, _, _, _, _, _, _, _, _, _, _, _, _, _, _, _, _, _, _, _, _, _, _, _, _, _, _, _, _, _, _, _, _, _, _, _, _, _, _, _, _, _, _, _, _, _, _, _, _, _, _, _, _, _, _, _, _, _, _, _, _, _, _, _, _, _, _, _, _, _, _, _, _, _, _, _, _, _, _, _, _, _, _, _, _, _, _, _, _, _, _, _, _, _, _, _, _, _, _, _, _, _, _, _, _, _, _, _, _, _, _, _, _, _, _, _, _, _, _, _, _, _, _, _, _, _, _, _, _, _, _, _, _, _, _, _, _, _, _, _, _, _, _, _, _, _, _, _, _, _, _, _, _, _, _, _, _, _, _, _, _, _, _, _, _, _, _, _, _, _, _, _, _, _, _]⟩ [box _ _ [_], box _ _ [_], box _ _ [_], box _ _ [_], box _ _ [_], box _ _ [_], osl _ _ _ _ _ _, box _ _ [_], box _ _ [_]] [_, _, _, _, _, _, _, _, _, _, _, _, _, _, _, _, _, _, _, _] rfl rfl rfl ?_
        have hggl : (limbsOf gg).length ≤ 1 := limbsOf_len_of_lt (by omega)
        have hpl := len_limbsOf_mul V gg
        refine JC_seq ?_
        refine JC_seq ?_
        refine JC_region ?_
        refine JL_loadA (vs := [_]) 8 ty24 rfl rfl ⟨rfl, trivial⟩ ?_
        refine JL_loadA (vs := [_]) 7 ty24 rfl rfl ⟨rfl, trivial⟩ ?_
        refine JL_callF' (Asks.cons (by first | exact holds_of_mem (by repeat (first | with_reducible exact mm0 | refine mmS ?_)) | (exact holds_of_own 6 rfl)) (Asks.cons (by first | exact holds_of_mem (by repeat (first | with_reducible exact mm0 | refine mmS ?_)) | (exact holds_of_own 6 rfl)) Asks.nil)) (rcmp_con _ _ _ _ _ (NIn.of (by omega)) _ _ _ _ _ (NIn.of (by omega))) rfl ca71 ⟨rfl, rfl, rfl⟩ ?_
        rintro _ _ ⟨rfl, rfl⟩
        refine JL_gtr rfl rfl ?_
        refine JL_split (fun h121 => ?_) (fun h121 => ?_)
        · have hlt : P < V * gg := cmpN_pos.1 (by omega)
          have hgp : 0 < gg := Nat.pos_of_ne_zero (fun h0 => by subst h0; omega)
          refine JL_done_up 178 [box _ _ [_], box _ _ [_], box _ _ [_], box _ _ [_], box _ _ [_], box _ _ [_], osl _ _ _ _ _ _, box _ _ [_], box _ _ [_]] [_, _, _, _, _, _, _, _, _, _, _, _, _, _, _, _, _, _, _, _] rfl rfl (by simp only [nrmF]; rfl) rfl rfl ?_
          refine JC_true rfl ?_
          refine JC_skip ?_
          refine JE_then ?_
          refine JC_block ?_
          refine JC_seq ?_
          refine JC_region ?_
          refine JL_loadA (vs := [_]) 8 ty24 rfl rfl ⟨rfl, trivial⟩ ?_
          refine JL_loadA (vs := [_]) 5 ty24 rfl rfl ⟨rfl, trivial⟩ ?_
          refine JL_callF' (Asks.cons (by first | exact holds_of_mem (by repeat (first | with_reducible exact mm0 | refine mmS ?_)) | (exact holds_of_own 6 rfl)) (Asks.cons (by first | exact holds_of_mem (by repeat (first | with_reducible exact mm0 | refine mmS ?_)) | (exact holds_of_own 6 rfl)) Asks.nil)) (rsub_con _ _ _ _ _ (NIn.of (by omega)) _ _ _ _ _ (NIn.of (by omega)) (V * (gg - 1)) (by rw [Nat.mul_sub, Nat.mul_one])) rfl ca72 ⟨rfl, rfl, rfl⟩ ?_
          rintro _ _ ⟨ad125, cap125, rfl, hk125, hm125, rfl⟩
          refine JL_move rfl ?_
          refine JL_extract rfl rfl ?_
          refine JL_extract rfl rfl ?_
          refine JL_store (vs := [_]) 8 ty24 rfl rfl rfl (AllOne.cons rfl AllOne.nil) rfl (Nat.le_of_ble_eq_true rfl) ?_
          refine JL_done_up 178 [box _ _ [_], box _ _ [_], box _ _ [_], box _ _ [_], box _ _ [_], box _ _ [_], osl _ _ _ _ _ _, box _ _ [_], box _ _ [_]] [_, _, _, _, _, _, _, _, _, _, _, _, _, _, _, _, _, _, _, _, _] rfl rfl (by simp only [nrmF]; rfl) rfl rfl ?_
          refine JC_region ?_
          refine JL_move rfl ?_
          refine JL_sub_to rfl rfl (IntWalk.u64_in _ (by omega)) ?_
          rw [show (((gg : Nat) : Int) - 1 : Int) = ((gg - 1 : Nat) : Int) from by omega]
          refine JL_assign rfl ?_
          refine JL_nil_up 178 [box _ _ [_], box _ _ [_], box _ _ [_], box _ _ [_], box _ _ [_], box _ _ [_], osl _ _ _ _ _ _, box _ _ [_], box _ _ [_]] [_, _, _, _, _, _, _, _, _, _, _, _, _, _, _, _, _, _, _, _, _] rfl rfl (by simp only [nrmF]; rfl) rfl rfl ?_
          refine JE_block_normal ?_
          refine JE_nextS (gg - 1, ad125, cap125) (by kernel_rfl) ?_ ?_ (by kernel_rfl) ?_
          · have hdl : P / V < gg := by rw [Nat.div_lt_iff_lt_mul hV0, Nat.mul_comm]; exact hlt
            exact ⟨by omega, by omega⟩
          · first | omega | (dsimp only; omega)
          · exact subset_app (subset_cons (by repeat (first | with_reducible exact mm0 | refine mmS ?_)) subset_nil) (ssS (ssS ss0))
        · have hge : V * gg ≤ P := by have := cmpN_pos (n := V * gg) (m := P); omega
          obtain rfl : gg = P / V := Nat.le_antisymm ((Nat.le_div_iff_mul_le hV0).2 (by rw [Nat.mul_comm]; exact hge)) hgg1
          refine JL_done_up 178 [box _ _ [_], box _ _ [_], box _ _ [_], box _ _ [_], box _ _ [_], box _ _ [_], osl _ _ _ _ _ _, box _ _ [_], box _ _ [_]] [_, _, _, _, _, _, _, _, _, _, _, _, _, _, _, _, _, _, _, _] rfl rfl (by simp only [nrmF]; rfl) rfl rfl ?_
          refine JC_false rfl ?_
          refine JC_exit ?_
          refine JE_then_exit ?_
          refine JE_nextS_exit ?_
          refine JE_block_exit ?_
          refine JE_then ?_
          refine JC_seq ?_
          refine JC_region ?_
          refine JL_loadA (vs := [_]) 7 ty24 rfl rfl ⟨rfl, trivial⟩ ?_
          refine JL_loadA (vs := [_]) 8 ty24 rfl rfl ⟨rfl, trivial⟩ ?_
          refine JL_callF' (Asks.cons (by first | exact holds_of_mem (by repeat (first | with_reducible exact mm0 | refine mmS ?_)) | (exact holds_of_own 6 rfl)) (Asks.cons (by first | exact holds_of_mem (by repeat (first | with_reducible exact mm0 | refine mmS ?_)) | (exact holds_of_own 6 rfl)) Asks.nil)) (rsub_con _ _ _ _ _ (NIn.of (by omega)) _ _ _ _ _ (NIn.of (by omega)) (P - V * (P / V)) rfl) rfl ca72 ⟨rfl, rfl, rfl⟩ ?_
          rintro _ _ ⟨ad133, cap133, rfl, hk133, hm133, rfl⟩
          refine JL_move rfl ?_
          refine JL_extract rfl rfl ?_
          refine JL_extract rfl rfl ?_
          refine JL_store (vs := [_]) 7 ty24 rfl rfl rfl (AllOne.cons rfl AllOne.nil) rfl (Nat.le_of_ble_eq_true rfl) ?_
          refine JL_done_up 178 [box _ _ [_], box _ _ [_], box _ _ [_], box _ _ [_], box _ _ [_], box _ _ [_], osl _ _ _ _ _ _, box _ _ [_], box _ _ [_]] [_, _, _, _, _, _, _, _, _, _, _, _, _, _, _, _, _, _, _, _, _] rfl rfl (by simp only [nrmF]; rfl) rfl rfl ?_
          refine JC_region ?_
          refine JL_move rfl ?_
          refine JL_move rfl ?_
          refine JL_move rfl ?_
          refine JL_convInt us94 it87 rfl (u32_nat _ (Nat.lt_of_le_of_lt hgg9 (by decide))) ?_
          have hlq := hI.hq
          refine JL_idx (jj - 1) sl22 rfl rfl (by omega) (by omega) (Reads.own 6 rfl) (by first | (rw [u32s_length]; omega) | (rw [i64s_length]; omega)) ?_
          refine JL_storeU 6 (P / V) ty87 rfl rfl rfl (by omega) (by omega) ?_
          refine JL_nil_up 178 [box _ _ [_], box _ _ [_], box _ _ [_], box _ _ [_], box _ _ [_], box _ _ [_], osl _ _ _ _ _ _, box _ _ [_], box _ _ [_]] [_, _, _, _, _, _, _, _, _, _, _, _, _, _, _, _, _, _, _, _, _] rfl rfl (by simp only [nrmF]; rfl) rfl rfl ?_
          refine JE_block_normal ?_
          refine JE_then ?_
          refine JC_region ?_
          refine JL_move rfl ?_
          refine JL_sub_to rfl rfl (IntWalk.i64_in _ (by omega)) ?_
          rw [show ((jj : Int) - 1 - 1 : Int) = ((jj - 1 : Nat) : Int) - 1 from by omega]
          refine JL_assign rfl ?_
          refine JL_nil_up 178 [box _ _ [_], box _ _ [_], box _ _ [_], box _ _ [_], box _ _ [_], box _ _ [_], osl _ _ _ _ _ _, box _ _ [_], box _ _ [_]] [_, _, _, _, _, _, _, _, _, _, _, _, _, _, _, _, _, _, _, _, _] rfl rfl (by simp only [nrmF]; rfl) rfl rfl ?_
          refine JE_dropAt 8 ?_
          refine JE_norm _ [box _ _ [_], box _ _ [_], box _ _ [_], box _ _ [_], box _ _ [_], box _ _ [_], osl _ _ _ _ _ _, box _ _ [_]] [_, _, _, _, _, _, _, _, _, _, _, _, _, _, _, _, _, _, _, _, _] rfl rfl rfl ?_
          refine JE_nextS (jj - 1, ad133, (limbsOf (P - V * (P / V))).length, cap133, P - V * (P / V), limbsOf (P - V * (P / V)), q.set (jj - 1) (P / V)) (by kernel_rfl) ?_ ?_ (by kernel_rfl) ?_
          · exact ⟨hI1.put (by omega) hP rfl, rfl, rfl, by omega⟩
          · first | omega | (dsimp only; omega)
          · exact subset_app (subset_cons (by repeat (first | with_reducible exact mm0 | refine mmS ?_)) subset_nil) (ssS (ssS (ssS (ssS (ssS (ssS (ssS (ssS (ssS (ssS ss0))))))))))
      · obtain rfl : jj = 0 := by omega
        refine JL_done_up 178 [box _ _ [_], box _ _ [_], box _ _ [_], box _ _ [_], box _ _ [_], box _ _ [_], osl _ _ _ _ _ _, box _ _ [_]] [_, _, _, _, _, _, _, _, _, _, _, _] rfl rfl (by simp only [nrmF]; rfl) rfl rfl ?_
        refine JC_false rfl ?_
        refine JC_exit ?_
        refine JE_then_exit ?_
        refine JE_nextS_exit ?_
        refine JE_block_exit ?_
        refine JE_then ?_
        refine JC_seq ?_
        refine JC_region ?_
        refine JL_fieldAddr fo24_0 rfl ?_
        refine JL_load 7 ty22 rfl rfl rfl ?_
        refine JL_len sl22 rfl ?_
        refine JL_make1 (limbsOf R).length (limbsOf R).length sl22 rfl rfl rfl rfl (by omega) (by omega) (by omega) (fun g144 => ?_)
        rw [u32s_replicate]
        refine JL_assign rfl ?_
        refine JL_done_up 178 [box _ _ [_], box _ _ [_], box _ _ [_], box _ _ [_], box _ _ [_], box _ _ [_], osl _ _ _ _ _ _, box _ _ [_], osl _ _ _ _ _ _] [_, _, _, _, _, _, _, _, _, _, _, _] rfl rfl (by simp only [nrmF]; rfl) rfl rfl ?_
        refine JC_seq ?_
        refine JC_region ?_
        refine JL_assign rfl ?_
        refine JL_done_up 178 [box _ _ [_], box _ _ [_], box _ _ [_], box _ _ [_], box _ _ [_], box _ _ [_], osl _ _ _ _ _ _, box _ _ [_], osl _ _ _ _ _ _] [_, _, _, _, _, _, _, _, _, _, _, _] rfl rfl (by simp only [nrmF]; rfl) rfl rfl ?_
        refine JC_seq ?_
        refine JC_seq ?_
        refine JC_region ?_
        refine JL_fieldAddr fo24_0 rfl ?_
        refine JL_load 7 ty22 rfl rfl rfl ?_
        refine JL_len sl22 rfl ?_
        refine JL_sub_to rfl rfl (IntWalk.i64_in _ (by omega)) ?_
        refine JL_assign rfl ?_
        refine JL_done_up 178 [box _ _ [_], box _ _ [_], box _ _ [_], box _ _ [_], box _ _ [_], box _ _ [_], osl _ _ _ _ _ _, box _ _ [_], osl _ _ _ _ _ _] [_, _, _, _, _, _, _, _, _, _, _, _] rfl rfl (by simp only [nrmF]; rfl) rfl rfl ?_
        refine JC_block ?_
        refine JC_loopS ((Nat) × (List Nat) × (Nat)) (fun (k, out, r) => k ≤ (limbsOf R).length ∧ out.length = (limbsOf R).length ∧ Dig out ∧ r < sc ∧ val ((limbsOf R).drop k) = sc * val (out.drop k) + r) (fun (k, out, r) => k) (fun u (k, out, r) => [none, none, none, none, none, none, none, none, none, none, none, none, none, none, none, none, none, none, some (.int .u64 (r : Nat)), some (.int .i64 ((k : Nat) - 1)), none, none, none, none, none, none, none, none, none, none, none, none, none, none, none, none, none, none, none, none, none, none, none, none, none, none, none, none, none, none, none, none, none, none, none, none, none, none, none, none, none, none, none, none, none, none, none, none, none, none, none, none, none, none, none, none, none, none, none, none, none, none, none, none, none, none, none, none, none, none, none, none, none, none, none, none, none, none, none, none, none, none, none, none, none, none, none, none, none, none, none, none, none, none, none, none, none, none, none, none, none, none, none, none, none, none, none, none, none, none, none, none, none, none, none, none, none, none, none, none, none, none, none, none, none, none, none, none, none, some (u 149), some (u 150), some (u 151), some (u 152), some (u 153), some (u 154), some (u 155), some (u 156), some (u 157), some (u 158), some (u 159), some (u 160), some (u 161), some (u 162), some (u 163), some (u 164), some (u 165), some (u 166), some (u 167), some (u 168), some (u 169), some (u 170), some (u 171), none, none, none, none, none, none]) (fun (k, out, r) => [none, none, none, none, none, none, none, none, some (osl (some ⟨g144, 0, none⟩) (limbsOf R).length (limbsOf R).length 87 1 (u32s out))]) (fun (k, out, r) => []) ((limbsOf R).length, List.replicate (limbsOf R).length 0, 0) (by kernel_rfl) ?_ (by kernel_rfl) ?_ ?_
        · exact ⟨Nat.le_refl _, List.length_replicate, Dig.replicate _, hs0, by rw [List.drop_length, List.drop_of_length_le (by simp)]; simp [val]⟩
        · exact subset_nil
        intro u i hC
        obtain ⟨k, out, r⟩ := i
        obtain ⟨hk, ho, hd, hr, hv⟩ := hC
        refine JC_norm ⟨178, [], [_, _, _, _, _, _, _, _, _, _, _, _, _, _, _, _, _, _, _, _, _, _, _, _, _, _, _, _, _, _, _, _, _, _, _, _, _, _, _, _, _, _, _, _, _, _, _, _, _, _, _, _, _, _, _, _, _, _, _, _, _, _, _, _, _, _, _, _, _, _, _, _, _, _, _, _, _, _, _, _, _, _, _, _, _, _, _, _, _, _, _, _, _, _, _, _, _, _, _, _, _, _, _, _, _, _, _, _, _, _, _, _, _, _, _, _, _, _, _, _, _, _, _, _, _, _, _, _, _, _, _, _, _, _, _, _, _, _, _, _, _, _, _, _, _, _, _, _, _, _, _, _, _, _, _, _, _, _, _, _, _, _, _, _, _, _, _, _, _, _, _, _, _, _, _, _, _, _]⟩ [box _ _ [_], box _ _ [_], box _ _ [_], box _ _ [_], box _ _ [_], box _ _ [_], osl _ _ _ _ _ _, box _ _ [_], osl _ _ _ _ _ _] [_, _, _, _, _, _, _, _, _, _, _, _] rfl rfl rfl ?_
        have hX := (dig_limbsOf R).getD (k - 1)
        refine JC_seq ?_
        refine JC_seq ?_
        refine JC_region ?_
        refine JL_move rfl ?_
        refine JL_geq rfl rfl ?_
        refine JL_split (fun h150 => ?_) (fun h150 => ?_)
        · refine JL_done_up 178 [box _ _ [_], box _ _ [_], box _ _ [_], box _ _ [_], box _ _ [_], box _ _ [_], osl _ _ _ _ _ _, box _ _ [_], osl _ _ _ _ _ _] [_, _, _, _, _, _, _, _, _, _, _, _] rfl rfl (by simp only [nrmF]; rfl) rfl rfl ?_
          refine JC_true rfl ?_
          refine JC_skip ?_
          refine JE_then ?_
          refine JC_seq ?_
          refine JC_block ?_
          refine JC_seq ?_
          refine JC_region ?_
          refine JL_move rfl ?_
          refine JL_mul_to rfl rfl (IntWalk.u64_in _ (by omega)) ?_
          refine JL_fieldAddr fo24_0 rfl ?_
          refine JL_load 7 ty22 rfl rfl rfl ?_
          refine JL_move rfl ?_
          have hq := short_lt hr hX
          refine JL_idx (k - 1) sl22 rfl rfl (by omega) (by omega) (by first | exact Reads.view (by repeat (first | with_reducible exact mm0 | refine mmS ?_)) | (exact Reads.own 6 rfl) | (exact Reads.own 8 rfl)) (by first | (rw [u32s_length]; omega) | (rw [i64s_length]; omega)) ?_
          refine JL_loadE ty87 rfl (by first | exact Reads.view (by repeat (first | with_reducible exact mm0 | refine mmS ?_)) | (exact Reads.own 6 rfl) | (exact Reads.own 8 rfl)) (u32s_get (by omega)) ?_
          refine JL_convInt us87 it94 rfl (IntWalk.u64_in _ (by omega)) ?_
          refine JL_add_to rfl rfl (IntWalk.u64_in _ (by omega)) ?_
          rw [show (((r : Nat) : Int) * 1000000000 + (((limbsOf R).getD (k - 1) 0 : Nat) : Int) : Int) = ((r * 1000000000 + (limbsOf R).getD (k - 1) 0 : Nat) : Int) from by omega]
          refine JL_assign rfl ?_
          refine JL_done_up 178 [box _ _ [_], box _ _ [_], box _ _ [_], box _ _ [_], box _ _ [_], box _ _ [_], osl _ _ _ _ _ _, box _ _ [_], osl _ _ _ _ _ _] [_, _, _, _, _, _, _, _, _, _, _, _] rfl rfl (by simp only [nrmF]; rfl) rfl rfl ?_
          refine JC_seq ?_
          refine JC_region ?_
          refine JL_move rfl ?_
          refine JL_move rfl ?_
          refine JL_move rfl ?_
          refine JL_move rfl ?_
          refine JL_quo_to rfl rfl (by omega) (quo_nat_u64 _ _ (by omega)) ?_
          refine JL_convInt us94 it87 rfl (u32_nat _ (Nat.lt_of_lt_of_le hq (by decide))) ?_
          refine JL_idx (k - 1) sl22 rfl rfl (by omega) (by omega) (Reads.own 8 rfl) (by first | (rw [u32s_length]; omega) | (rw [i64s_length]; omega)) ?_
          refine JL_storeU 8 ((r * 1000000000 + (limbsOf R).getD (k - 1) 0) / sc) ty87 rfl rfl rfl (by omega) (by omega) ?_
          refine JL_done_up 178 [box _ _ [_], box _ _ [_], box _ _ [_], box _ _ [_], box _ _ [_], box _ _ [_], osl _ _ _ _ _ _, box _ _ [_], osl _ _ _ _ _ _] [_, _, _, _, _, _, _, _, _, _, _, _] rfl rfl (by simp only [nrmF]; rfl) rfl rfl ?_
          refine JC_region ?_
          refine JL_move rfl ?_
          refine JL_move rfl ?_
          refine JL_rem_to rfl rfl (by omega) (rem_nat _ _) ?_
          refine JL_assign rfl ?_
          refine JL_nil_up 178 [box _ _ [_], box _ _ [_], box _ _ [_], box _ _ [_], box _ _ [_], box _ _ [_], osl _ _ _ _ _ _, box _ _ [_], osl _ _ _ _ _ _] [_, _, _, _, _, _, _, _, _, _, _, _] rfl rfl (by simp only [nrmF]; rfl) rfl rfl ?_
          refine JE_block_normal ?_
          refine JE_then ?_
          refine JC_region ?_
          refine JL_move rfl ?_
          refine JL_sub_to rfl rfl (IntWalk.i64_in _ (by omega)) ?_
          rw [show ((k : Int) - 1 - 1 : Int) = ((k - 1 : Nat) : Int) - 1 from by omega]
          refine JL_assign rfl ?_
          refine JL_nil_up 178 [box _ _ [_], box _ _ [_], box _ _ [_], box _ _ [_], box _ _ [_], box _ _ [_], osl _ _ _ _ _ _, box _ _ [_], osl _ _ _ _ _ _] [_, _, _, _, _, _, _, _, _, _, _, _] rfl rfl (by simp only [nrmF]; rfl) rfl rfl ?_
          refine JE_nextS (k - 1, out.set (k - 1) ((r * 1000000000 + (limbsOf R).getD (k - 1) 0) / sc), (r * 1000000000 + (limbsOf R).getD (k - 1) 0) % sc) (by kernel_rfl) ?_ ?_ (by kernel_rfl) ?_
          · exact ⟨by omega, by rw [List.length_set]; omega, hd.set _ _ hq, Nat.mod_lt _ hs0, short_step (by omega) ho (by rw [Nat.sub_add_cancel (by omega)]; exact hv) hs0 rfl⟩
          · first | omega | (dsimp only; omega)
          · exact subset_app subset_nil ss0
        · refine JL_done_up 178 [box _ _ [_], box _ _ [_], box _ _ [_], box _ _ [_], box _ _ [_], box _ _ [_], osl _ _ _ _ _ _, box _ _ [_], osl _ _ _ _ _ _] [_, _, _, _, _, _, _, _, _, _, _, _] rfl rfl (by simp only [nrmF]; rfl) rfl rfl ?_
          refine JC_false rfl ?_
          refine JC_exit ?_
          refine JE_then_exit ?_
          refine JE_nextS_exit ?_
          refine JE_block_exit ?_
          refine JE_then ?_
          refine JC_seq ?_
          refine JC_region ?_
          refine JL_move rfl ?_
          refine JL_build (cs := [_]) [(0, [_])] st24 ⟨⟨rfl, _, rfl, rfl⟩, rfl⟩ rfl ?_
          refine JL_callF' (Asks.cons (by first | exact holds_of_mem (by repeat (first | with_reducible exact mm0 | refine mmS ?_)) | (exact holds_of_own 6 rfl) | (exact holds_of_own 8 rfl)) Asks.nil) (rnorm_con _ _ _ _ (x1 / x2) ⟨hI.hq, U32.ofDig hI.dq, by rw [hI.done.1, ← hN, ← hV, mul_div_scale hs0], by omega⟩) rfl ca94 ⟨rfl, rfl⟩ ?_
          rintro _ _ ⟨ad174, cap174, rfl, hk174, hm174, rfl⟩
          refine JL_move rfl ?_
          refine JL_build (cs := [_]) [(0, [_])] st24 ⟨⟨rfl, _, rfl, rfl⟩, rfl⟩ rfl ?_
          refine JL_callF' (Asks.cons (by first | exact holds_of_mem (by repeat (first | with_reducible exact mm0 | refine mmS ?_)) | (exact holds_of_own 6 rfl) | (exact holds_of_own 8 rfl)) Asks.nil) (rnorm_con _ _ _ _ (x1 % x2) ⟨ho, U32.ofDig hd, by rw [short_val (k := k) (by omega) (val_limbsOf R) hv hr, hI.done.2, ← hN, ← hV, mul_mod_scale hs0], by omega⟩) rfl ca94 ⟨rfl, rfl⟩ ?_
          rintro _ _ ⟨ad177, cap177, rfl, hk177, hm177, rfl⟩
          refine JL_store (vs := [_]) 2 ty24 rfl rfl rfl (AllOne.cons rfl AllOne.nil) rfl (Nat.le_of_ble_eq_true rfl) ?_
          refine JL_store (vs := [_]) 3 ty24 rfl rfl rfl (AllOne.cons rfl AllOne.nil) rfl (Nat.le_of_ble_eq_true rfl) ?_
          refine JL_assign rfl ?_
          refine JL_done_up 178 [box _ _ [_], box _ _ [_], box _ _ [_], box _ _ [_], box _ _ [_], box _ _ [_], osl _ _ _ _ _ _, box _ _ [_], osl _ _ _ _ _ _] [_, _, _, _, _, _, _, _, _, _, _, _, _, _] rfl rfl (by simp only [nrmF]; rfl) rfl rfl ?_
          refine JC_ret ?_
          refine JE_ret (vs := [_, _, _]) [vCells ad174 (u32s (limbsOf (x1 / x2))), vCells ad177 (u32s (limbsOf (x1 % x2)))] Tryd.results97 ⟨RV.cell (vs := [_]) 2 ty24 rfl rfl ⟨rfl, trivial⟩, RV.cell (vs := [_]) 3 ty24 rfl rfl ⟨rfl, trivial⟩, rfl, rfl⟩ ?_ ?_
          · exact ⟨ad174, cap174, ad177, cap177, rfl, hk174, hm174, hk177, hm177, rfl⟩
          · exact (all_cons (by repeat (first | with_reducible exact mm0 | refine mmS ?_)) (all_cons (by repeat (first | with_reducible exact mm0 | refine mmS ?_)) all_nil))

end Go.Fw.K
