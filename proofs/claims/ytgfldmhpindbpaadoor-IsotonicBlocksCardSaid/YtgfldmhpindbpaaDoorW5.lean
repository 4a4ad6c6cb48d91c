/- Walks through functions of the given program: each meets its contract. (Printed by a program of this repo.) -/
import Derived.Test.YtgfldmhpindbpaaDoorW1
import Derived.Test.YtgfldmhpindbpaaDoorW2
import Derived.Test.YtgfldmhpindbpaaDoorW3
import Derived.Test.YtgfldmhpindbpaaDoorW4
import Derived.Test.YtgfldmhpindbpaaDoorProg
namespace Go.Fw.W5
open Go Go.RowKit Go.Proofs Go.Nat9 Go.Fw
attribute [local irreducible] JC JL JE
theorem ca46 : callable Tryd.prog 46 = true := by kernel_rfl
theorem ca47 : callable Tryd.prog 47 = true := by kernel_rfl
theorem ca48 : callable Tryd.prog 48 = true := by kernel_rfl
theorem ca49 : callable Tryd.prog 49 = true := by kernel_rfl
theorem ca53 : callable Tryd.prog 53 = true := by kernel_rfl
theorem ca54 : callable Tryd.prog 54 = true := by kernel_rfl
theorem ca60 : callable Tryd.prog 60 = true := by kernel_rfl
theorem mixed : Tryd.prog.follows .mixedOrders = true := by kernel_rfl
theorem sl32 : slOf Tryd.prog 32 = some (86, 1, 4, [.int .u32 0]) := by kernel_rfl
theorem st34 : stOf Tryd.prog 34 = some ([(0, 1)], [.slice none 0 0]) := by kernel_rfl
theorem ty34 : tyOf Tryd.prog 34 = some (true, 1) := by kernel_rfl
theorem z34 : zeroOf Tryd.prog 34 = some [.slice none 0 0] := by kernel_rfl
end Go.Fw.W5
namespace Go.Fw.K
open Go Go.RowKit Go.Proofs Go.Nat9 Go.Fw Go.Fw.W5
attribute [local irreducible] JC JL JE

theorem nat_cmp_con (ad1 : Option Addr) (n1 c1 : Nat) (L1 : List Nat) (x1 : Nat) (g1 : NIn n1 L1 x1 100000000) (ad2 : Option Addr) (n2 c2 : Nat) (L2 : List Nat) (x2 : Nat) (g2 : NIn n2 L2 x2 100000000) :
    ConF Tryd.prog 36 [.agg #[.slice ad1 n1 c1], .agg #[.slice ad2 n2 c2]] [vCells ad1 (u32s L1), vCells ad2 (u32s L2)]
      (fun v φo => v = .int .i64 (cmpN x1 x2) ∧ φo = []) := by
  have hs1 := g1.sz
  have hl1 := g1.le
  have hs2 := g2.sz
  have hl2 := g2.le
  refine ConF_of Tryd.func36 rfl 10 _ rfl rfl ?_
  intro w0
  refine JC_norm ⟨10, [], [_, _, _, _, _, _, _, _, _, _]⟩ [] [_, _] rfl rfl rfl ?_
  refine JC_seq ?_
  refine JC_region ?_
  refine JL_box rfl rfl (fun b2 => ?_)
  refine JL_box rfl rfl (fun b3 => ?_)
  refine JL_assign rfl ?_
  refine JL_done_up 10 [box _ _ [_], box _ _ [_]] [_, _] rfl rfl (by simp only [nrmF]; rfl) rfl rfl ?_
  refine JC_seq ?_
  refine JC_drawT mixed 3 [spV 5 [] _, spC 6 [0] _, spV 7 [] _] ⟨OblS_V (fun vals ex ψ => (by
      refine JL_normQ ⟨10, [(5, _), (6, _), (7, _)], _⟩ (_ :: _ :: ψ) rfl rfl ?_
      refine JL_loadA (vs := [_]) 0 ty34 rfl rfl ⟨rfl, trivial⟩ ?_
      exact JL_nil (JE_stepV rfl ss0))), OblS_C (fun vals ex ψ => (by
      refine JL_normQ ⟨10, [(5, _), (6, _), (7, _)], _⟩ (_ :: _ :: ψ) rfl rfl ?_
      refine JL_callF' (Asks.cons (holds_of_mem (by repeat (first | with_reducible exact mm0 | refine mmS ?_))) Asks.nil) (limbs_con _ _ _ _ _ g1) rfl ca47 ⟨rfl, rfl⟩ ?_
      exact fun v φo hP => JL_nil (JE_stepC φo rfl hP (fun p hp => mapB_l hp) (fun p hp => mapB_r (ss0 p hp))))), OblS_V (fun vals ex ψ => (by
      refine JL_normQ ⟨10, [(5, _), (6, _), (7, _)], _⟩ (_ :: _ :: ψ) rfl rfl ?_
      refine JL_loadA (vs := [_]) 1 ty34 rfl rfl ⟨rfl, trivial⟩ ?_
      exact JL_nil (JE_stepV rfl ss0))), trivial⟩ (by kernel_rfl) (fun vals bs => ?_)
  refine JL_normL [_, _, _] ⟨10, [(5, _), (6, _), (7, _)], _⟩ [box _ _ [_], box _ _ [_]] [_, _, _] rfl rfl rfl rfl ?_
  generalize vals (0 + 1) = x6
  refine JL_usePost mm0 (fun φo hP => ?_)
  obtain ⟨ad6, cap6, rfl, hk6, hm6, rfl⟩ := hP
  refine JL_norm _ [box _ _ [_], box _ _ [_]] [_, _, _, _] rfl rfl rfl ?_
  refine JL_callF' (Asks.cons (holds_of_mem (by repeat (first | with_reducible exact mm0 | refine mmS ?_))) Asks.nil) (limbs_con _ _ _ _ _ g2) rfl ca47 ⟨rfl, rfl⟩ ?_
  rintro _ _ ⟨ad8, cap8, rfl, hk8, hm8, rfl⟩
  refine JL_callF' (Asks.cons (holds_of_mem (by repeat (first | with_reducible exact mm0 | refine mmS ?_))) (Asks.cons (holds_of_mem (by repeat (first | with_reducible exact mm0 | refine mmS ?_))) Asks.nil)) (compare_con _ _ _ _ _ _ _ _ rfl rfl (by omega) (by omega)) rfl ca46 ⟨rfl, rfl, rfl⟩ ?_
  rintro _ _ ⟨rfl, rfl⟩
  refine JL_assign rfl ?_
  refine JL_done_up 10 [box _ _ [_], box _ _ [_]] [_, _, _, _, _] rfl rfl (by simp only [nrmF]; rfl) rfl rfl ?_
  refine JC_ret ?_
  refine JE_ret (vs := [_]) [] Tryd.results36 ⟨rfl, rfl⟩ ?_ ?_
  · exact ⟨rfl, rfl⟩
  · exact all_nil

theorem nat_add_con (ad1 : Option Addr) (n1 c1 : Nat) (L1 : List Nat) (x1 : Nat) (g1 : NIn n1 L1 x1 100000000) (ad2 : Option Addr) (n2 c2 : Nat) (L2 : List Nat) (x2 : Nat) (g2 : NIn n2 L2 x2 100000000) :
    ConF Tryd.prog 41 [.agg #[.slice ad1 n1 c1], .agg #[.slice ad2 n2 c2]] [vCells ad1 (u32s L1), vCells ad2 (u32s L2)]
      (LN (x1 + x2)) := by
  have hs1 := g1.sz
  have hl1 := g1.le
  have hs2 := g2.sz
  have hl2 := g2.le
  have hsz := len_limbsOf_add x1 x2
  refine ConF_of Tryd.func41 rfl 11 _ rfl rfl ?_
  intro w0
  refine JC_norm ⟨11, [], [_, _, _, _, _, _, _, _, _, _, _]⟩ [] [_, _] rfl rfl rfl ?_
  refine JC_seq ?_
  refine JC_region ?_
  refine JL_box rfl rfl (fun b2 => ?_)
  refine JL_box rfl rfl (fun b3 => ?_)
  refine JL_alloc z34 (fun b4 => ?_)
  refine JL_done_up 11 [box _ _ [_], box _ _ [_], box _ _ [_]] [_, _] rfl rfl (by simp only [nrmF]; rfl) rfl rfl ?_
  refine JC_seq ?_
  refine JC_drawT mixed 3 [spV 5 [] _, spC 6 [0] _, spV 7 [] _] ⟨OblS_V (fun vals ex ψ => (by
      refine JL_normQ ⟨11, [(5, _), (6, _), (7, _)], _⟩ (_ :: _ :: ψ) rfl rfl ?_
      refine JL_loadA (vs := [_]) 0 ty34 rfl rfl ⟨rfl, trivial⟩ ?_
      exact JL_nil (JE_stepV rfl ss0))), OblS_C (fun vals ex ψ => (by
      refine JL_normQ ⟨11, [(5, _), (6, _), (7, _)], _⟩ (_ :: _ :: ψ) rfl rfl ?_
      refine JL_callF' (Asks.cons (holds_of_mem (by repeat (first | with_reducible exact mm0 | refine mmS ?_))) Asks.nil) (limbs_con _ _ _ _ _ g1) rfl ca47 ⟨rfl, rfl⟩ ?_
      exact fun v φo hP => JL_nil (JE_stepC φo rfl hP (fun p hp => mapB_l hp) (fun p hp => mapB_r (ss0 p hp))))), OblS_V (fun vals ex ψ => (by
      refine JL_normQ ⟨11, [(5, _), (6, _), (7, _)], _⟩ (_ :: _ :: ψ) rfl rfl ?_
      refine JL_loadA (vs := [_]) 1 ty34 rfl rfl ⟨rfl, trivial⟩ ?_
      exact JL_nil (JE_stepV rfl ss0))), trivial⟩ (by kernel_rfl) (fun vals bs => ?_)
  refine JL_normL [_, _, _, _] ⟨11, [(5, _), (6, _), (7, _)], _⟩ [box _ _ [_], box _ _ [_], box _ _ [_]] [_, _, _] rfl rfl rfl rfl ?_
  generalize vals (0 + 1) = x6
  refine JL_usePost mm0 (fun φo hP => ?_)
  obtain ⟨ad6, cap6, rfl, hk6, hm6, rfl⟩ := hP
  refine JL_norm _ [box _ _ [_], box _ _ [_], box _ _ [_]] [_, _, _, _] rfl rfl rfl ?_
  refine JL_callF' (Asks.cons (holds_of_mem (by repeat (first | with_reducible exact mm0 | refine mmS ?_))) Asks.nil) (limbs_con _ _ _ _ _ g2) rfl ca47 ⟨rfl, rfl⟩ ?_
  rintro _ _ ⟨ad8, cap8, rfl, hk8, hm8, rfl⟩
  refine JL_callF' (Asks.cons (holds_of_mem (by repeat (first | with_reducible exact mm0 | refine mmS ?_))) (Asks.cons (holds_of_mem (by repeat (first | with_reducible exact mm0 | refine mmS ?_))) Asks.nil)) (plus_con _ _ _ _ _ _ _ _ rfl rfl (by omega) (by omega)) rfl ca53 ⟨rfl, rfl, rfl⟩ ?_
  rintro _ _ ⟨ad9, cap9, rfl, hk9, hm9, rfl⟩
  refine JL_callA' true (AsksA.cons (holdsA_of_mem (by repeat (first | with_reducible exact mm0 | refine mmS ?_))) AsksA.nil) (made_con _ _ _ _ _ DIn.of (by omega) (by omega)) rfl ca48 ⟨rfl, rfl⟩ ?_
  rintro _ _ ⟨ad10, cap10, rfl, hk10, hm10, rfl⟩
  refine JL_store (vs := [_]) 2 ty34 rfl rfl rfl (AllOne.cons rfl AllOne.nil) rfl (Nat.le_of_ble_eq_true rfl) ?_
  refine JL_done_up 11 [box _ _ [_], box _ _ [_], box _ _ [_]] [_, _, _, _, _, _, _] rfl rfl (by simp only [nrmF]; rfl) rfl rfl ?_
  refine JC_ret ?_
  refine JE_ret (vs := [_]) [vCells ad10 (u32s (limbsOf (x1 + x2)))] Tryd.results41 ⟨RV.cell (vs := [_]) 2 ty34 rfl rfl ⟨rfl, trivial⟩, rfl⟩ ?_ ?_
  · exact ⟨ad10, cap10, rfl, hk10, hm10, rfl⟩
  · exact (all_cons (by repeat (first | with_reducible exact mm0 | refine mmS ?_)) all_nil)

theorem nat_mul_con (ad1 : Option Addr) (n1 c1 : Nat) (L1 : List Nat) (x1 : Nat) (g1 : NIn n1 L1 x1 100000000) (ad2 : Option Addr) (n2 c2 : Nat) (L2 : List Nat) (x2 : Nat) (g2 : NIn n2 L2 x2 100000000) :
    ConF Tryd.prog 37 [.agg #[.slice ad1 n1 c1], .agg #[.slice ad2 n2 c2]] [vCells ad1 (u32s L1), vCells ad2 (u32s L2)]
      (LN (x1 * x2)) := by
  have hs1 := g1.sz
  have hl1 := g1.le
  have hs2 := g2.sz
  have hl2 := g2.le
  have hsz := len_limbsOf_mul x1 x2
  refine ConF_of Tryd.func37 rfl 11 _ rfl rfl ?_
  intro w0
  refine JC_norm ⟨11, [], [_, _, _, _, _, _, _, _, _, _, _]⟩ [] [_, _] rfl rfl rfl ?_
  refine JC_seq ?_
  refine JC_region ?_
  refine JL_box rfl rfl (fun b2 => ?_)
  refine JL_box rfl rfl (fun b3 => ?_)
  refine JL_alloc z34 (fun b4 => ?_)
  refine JL_done_up 11 [box _ _ [_], box _ _ [_], box _ _ [_]] [_, _] rfl rfl (by simp only [nrmF]; rfl) rfl rfl ?_
  refine JC_seq ?_
  refine JC_drawT mixed 3 [spV 5 [] _, spC 6 [0] _, spV 7 [] _] ⟨OblS_V (fun vals ex ψ => (by
      refine JL_normQ ⟨11, [(5, _), (6, _), (7, _)], _⟩ (_ :: _ :: ψ) rfl rfl ?_
      refine JL_loadA (vs := [_]) 0 ty34 rfl rfl ⟨rfl, trivial⟩ ?_
      exact JL_nil (JE_stepV rfl ss0))), OblS_C (fun vals ex ψ => (by
      refine JL_normQ ⟨11, [(5, _), (6, _), (7, _)], _⟩ (_ :: _ :: ψ) rfl rfl ?_
      refine JL_callF' (Asks.cons (holds_of_mem (by repeat (first | with_reducible exact mm0 | refine mmS ?_))) Asks.nil) (limbs_con _ _ _ _ _ g1) rfl ca47 ⟨rfl, rfl⟩ ?_
      exact fun v φo hP => JL_nil (JE_stepC φo rfl hP (fun p hp => mapB_l hp) (fun p hp => mapB_r (ss0 p hp))))), OblS_V (fun vals ex ψ => (by
      refine JL_normQ ⟨11, [(5, _), (6, _), (7, _)], _⟩ (_ :: _ :: ψ) rfl rfl ?_
      refine JL_loadA (vs := [_]) 1 ty34 rfl rfl ⟨rfl, trivial⟩ ?_
      exact JL_nil (JE_stepV rfl ss0))), trivial⟩ (by kernel_rfl) (fun vals bs => ?_)
  refine JL_normL [_, _, _, _] ⟨11, [(5, _), (6, _), (7, _)], _⟩ [box _ _ [_], box _ _ [_], box _ _ [_]] [_, _, _] rfl rfl rfl rfl ?_
  generalize vals (0 + 1) = x6
  refine JL_usePost mm0 (fun φo hP => ?_)
  obtain ⟨ad6, cap6, rfl, hk6, hm6, rfl⟩ := hP
  refine JL_norm _ [box _ _ [_], box _ _ [_], box _ _ [_]] [_, _, _, _] rfl rfl rfl ?_
  refine JL_callF' (Asks.cons (holds_of_mem (by repeat (first | with_reducible exact mm0 | refine mmS ?_))) Asks.nil) (limbs_con _ _ _ _ _ g2) rfl ca47 ⟨rfl, rfl⟩ ?_
  rintro _ _ ⟨ad8, cap8, rfl, hk8, hm8, rfl⟩
  refine JL_callF' (Asks.cons (holds_of_mem (by repeat (first | with_reducible exact mm0 | refine mmS ?_))) (Asks.cons (holds_of_mem (by repeat (first | with_reducible exact mm0 | refine mmS ?_))) Asks.nil)) (times_con _ _ _ _ _ _ _ _ _ _ _ rfl DIn.of DIn.of (by omega) (by omega)) rfl ca49 ⟨rfl, rfl, rfl⟩ ?_
  rintro _ _ ⟨ad9, cap9, rfl, hk9, hm9, rfl⟩
  refine JL_callA' true (AsksA.cons (holdsA_of_mem (by repeat (first | with_reducible exact mm0 | refine mmS ?_))) AsksA.nil) (made_con _ _ _ _ _ DIn.of (by omega) (by omega)) rfl ca48 ⟨rfl, rfl⟩ ?_
  rintro _ _ ⟨ad10, cap10, rfl, hk10, hm10, rfl⟩
  refine JL_store (vs := [_]) 2 ty34 rfl rfl rfl (AllOne.cons rfl AllOne.nil) rfl (Nat.le_of_ble_eq_true rfl) ?_
  refine JL_done_up 11 [box _ _ [_], box _ _ [_], box _ _ [_]] [_, _, _, _, _, _, _] rfl rfl (by simp only [nrmF]; rfl) rfl rfl ?_
  refine JC_ret ?_
  refine JE_ret (vs := [_]) [vCells ad10 (u32s (limbsOf (x1 * x2)))] Tryd.results37 ⟨RV.cell (vs := [_]) 2 ty34 rfl rfl ⟨rfl, trivial⟩, rfl⟩ ?_ ?_
  · exact ⟨ad10, cap10, rfl, hk10, hm10, rfl⟩
  · exact (all_cons (by repeat (first | with_reducible exact mm0 | refine mmS ?_)) all_nil)

theorem nat_sub_con (ad1 : Option Addr) (n1 c1 : Nat) (L1 : List Nat) (x1 : Nat) (g1 : NIn n1 L1 x1 100000000) (ad2 : Option Addr) (n2 c2 : Nat) (L2 : List Nat) (x2 : Nat) (g2 : NIn n2 L2 x2 100000000) :
    ConF Tryd.prog 42 [.agg #[.slice ad1 n1 c1], .agg #[.slice ad2 n2 c2]] [vCells ad1 (u32s L1), vCells ad2 (u32s L2)]
      (LNE (x1 - x2) (if x1 < x2 then 2 else 0)) := by
  have hs1 := g1.sz
  have hl1 := g1.le
  have hs2 := g2.sz
  have hl2 := g2.le
  refine ConF_of Tryd.func42 rfl 21 _ rfl rfl ?_
  intro w0
  refine JC_norm ⟨21, [], [_, _, _, _, _, _, _, _, _, _, _, _, _, _, _, _, _, _, _, _, _]⟩ [] [_, _] rfl rfl rfl ?_
  refine JC_seq ?_
  refine JC_region ?_
  refine JL_box rfl rfl (fun b2 => ?_)
  refine JL_box rfl rfl (fun b3 => ?_)
  refine JL_alloc z34 (fun b4 => ?_)
  refine JL_assign rfl ?_
  refine JL_done_up 21 [box _ _ [_], box _ _ [_], box _ _ [_]] [_, _] rfl rfl (by simp only [nrmF]; rfl) rfl rfl ?_
  refine JC_seq ?_
  refine JC_drawT mixed 3 [spV 8 [] _, spC 9 [0] _, spV 10 [] _] ⟨OblS_V (fun vals ex ψ => (by
      refine JL_normQ ⟨21, [(8, _), (9, _), (10, _)], _⟩ (_ :: _ :: ψ) rfl rfl ?_
      refine JL_loadA (vs := [_]) 0 ty34 rfl rfl ⟨rfl, trivial⟩ ?_
      exact JL_nil (JE_stepV rfl ss0))), OblS_C (fun vals ex ψ => (by
      refine JL_normQ ⟨21, [(8, _), (9, _), (10, _)], _⟩ (_ :: _ :: ψ) rfl rfl ?_
      refine JL_callF' (Asks.cons (holds_of_mem (by repeat (first | with_reducible exact mm0 | refine mmS ?_))) Asks.nil) (limbs_con _ _ _ _ _ g1) rfl ca47 ⟨rfl, rfl⟩ ?_
      exact fun v φo hP => JL_nil (JE_stepC φo rfl hP (fun p hp => mapB_l hp) (fun p hp => mapB_r (ss0 p hp))))), OblS_V (fun vals ex ψ => (by
      refine JL_normQ ⟨21, [(8, _), (9, _), (10, _)], _⟩ (_ :: _ :: ψ) rfl rfl ?_
      refine JL_loadA (vs := [_]) 1 ty34 rfl rfl ⟨rfl, trivial⟩ ?_
      exact JL_nil (JE_stepV rfl ss0))), trivial⟩ (by kernel_rfl) (fun vals bs => ?_)
  refine JL_normL [_, _, _] ⟨21, [(8, _), (9, _), (10, _)], _⟩ [box _ _ [_], box _ _ [_], box _ _ [_]] [_, _, _] rfl rfl rfl rfl ?_
  generalize vals (0 + 1) = x9
  refine JL_usePost mm0 (fun φo hP => ?_)
  obtain ⟨ad9, cap9, rfl, hk9, hm9, rfl⟩ := hP
  refine JL_norm _ [box _ _ [_], box _ _ [_], box _ _ [_]] [_, _, _, _] rfl rfl rfl ?_
  refine JL_callF' (Asks.cons (holds_of_mem (by repeat (first | with_reducible exact mm0 | refine mmS ?_))) Asks.nil) (limbs_con _ _ _ _ _ g2) rfl ca47 ⟨rfl, rfl⟩ ?_
  rintro _ _ ⟨ad11, cap11, rfl, hk11, hm11, rfl⟩
  refine JL_assign rfl ?_
  refine JL_assign rfl ?_
  refine JL_done_up 21 [box _ _ [_], box _ _ [_], box _ _ [_]] [_, _, _, _, _] rfl rfl (by simp only [nrmF]; rfl) rfl rfl ?_
  refine JC_seq ?_
  refine JC_seq ?_
  refine JC_region ?_
  refine JL_move rfl ?_
  refine JL_move rfl ?_
  refine JL_callF' (Asks.cons (holds_of_mem (by repeat (first | with_reducible exact mm0 | refine mmS ?_))) (Asks.cons (holds_of_mem (by repeat (first | with_reducible exact mm0 | refine mmS ?_))) Asks.nil)) (compare_con _ _ _ _ _ _ _ _ rfl rfl (by omega) (by omega)) rfl ca46 ⟨rfl, rfl, rfl⟩ ?_
  rintro _ _ ⟨rfl, rfl⟩
  refine JL_lss rfl rfl ?_
  refine JL_split (fun h15 => ?_) (fun h15 => ?_)
  · refine JL_done_up 21 [box _ _ [_], box _ _ [_], box _ _ [_]] [_, _, _, _, _] rfl rfl (by simp only [nrmF]; rfl) rfl rfl ?_
    refine JC_true rfl ?_
    refine JC_seq ?_
    refine JC_region ?_
    refine JL_build (cs := [_]) [] st34 rfl rfl ?_
    refine JL_store (vs := [_]) 2 ty34 rfl rfl rfl (AllOne.cons rfl AllOne.nil) rfl (Nat.le_of_ble_eq_true rfl) ?_
    refine JL_assign rfl ?_
    refine JL_done_up 21 [box _ _ [_], box _ _ [_], box _ _ [_]] [_, _, _, _, _] rfl rfl (by simp only [nrmF]; rfl) rfl rfl ?_
    refine JC_ret ?_
    refine JE_then_ret ?_
    have hlt : x1 < x2 := cmpN_neg.1 h15
    have hz : x1 - x2 = 0 := by omega
    refine JE_nilView ?_
    refine JE_ret (vs := [_, _]) [vCells none (u32s [])] Tryd.results42 ⟨RV.cell (vs := [_]) 2 ty34 rfl rfl ⟨rfl, trivial⟩, rfl, rfl⟩ ?_ ?_
    · exact ⟨none, 0, by rw [hz, limbsOf_zero, if_pos hlt]; rfl, by rw [hz, limbsOf_zero]; exact Nat.le_refl _, by omega, by rw [hz, limbsOf_zero]⟩
    · exact (all_cons (by repeat (first | with_reducible exact mm0 | refine mmS ?_)) all_nil)
  · refine JL_done_up 21 [box _ _ [_], box _ _ [_], box _ _ [_]] [_, _, _, _, _] rfl rfl (by simp only [nrmF]; rfl) rfl rfl ?_
    refine JC_false rfl ?_
    refine JC_skip ?_
    refine JE_then ?_
    refine JC_seq ?_
    refine JC_region ?_
    refine JL_move rfl ?_
    refine JL_move rfl ?_
    have hle : x2 ≤ x1 := by have := cmpN_neg (n := x1) (m := x2); omega
    refine JL_callF' (Asks.cons (holds_of_mem (by repeat (first | with_reducible exact mm0 | refine mmS ?_))) (Asks.cons (holds_of_mem (by repeat (first | with_reducible exact mm0 | refine mmS ?_))) Asks.nil)) (minus_con _ _ _ _ _ _ _ _ rfl rfl (by omega) (by omega) _ rfl hle) rfl ca54 ⟨rfl, rfl, rfl⟩ ?_
    rintro _ _ ⟨ad19, cap19, rfl, hk19, hm19, rfl⟩
    refine JL_callA' true (AsksA.cons (holdsA_of_mem (by repeat (first | with_reducible exact mm0 | refine mmS ?_))) AsksA.nil) (made_con _ _ _ _ _ DIn.of (by omega) (by omega)) rfl ca48 ⟨rfl, rfl⟩ ?_
    rintro _ _ ⟨ad20, cap20, rfl, hk20, hm20, rfl⟩
    refine JL_store (vs := [_]) 2 ty34 rfl rfl rfl (AllOne.cons rfl AllOne.nil) rfl (Nat.le_of_ble_eq_true rfl) ?_
    refine JL_assign rfl ?_
    refine JL_done_up 21 [box _ _ [_], box _ _ [_], box _ _ [_]] [_, _, _, _, _, _, _] rfl rfl (by simp only [nrmF]; rfl) rfl rfl ?_
    refine JC_ret ?_
    refine JE_ret (vs := [_, _]) [vCells ad20 (u32s (limbsOf (x1 - x2)))] Tryd.results42 ⟨RV.cell (vs := [_]) 2 ty34 rfl rfl ⟨rfl, trivial⟩, rfl, rfl⟩ ?_ ?_
    · exact ⟨ad20, cap20, by rw [if_neg (by omega)]; rfl, hk20, hm20, rfl⟩
    · exact (all_cons (by repeat (first | with_reducible exact mm0 | refine mmS ?_)) all_nil)

theorem nat_divmod_con (ad1 : Option Addr) (n1 c1 : Nat) (L1 : List Nat) (x1 : Nat) (g1 : NIn n1 L1 x1 100000000) (ad2 : Option Addr) (n2 c2 : Nat) (L2 : List Nat) (x2 : Nat) (g2 : NIn n2 L2 x2 100000000) (hpos : 0 < x2) :
    ConF Tryd.prog 52 [.agg #[.slice ad1 n1 c1], .agg #[.slice ad2 n2 c2]] [vCells ad1 (u32s L1), vCells ad2 (u32s L2)]
      (LN2E (x1 / x2) (x1 % x2) 0) := by
  have hs1 := g1.sz
  have hl1 := g1.le
  have hs2 := g2.sz
  have hl2 := g2.le
  have hlp := limbsOf_len_pos hpos
  refine ConF_of Tryd.func52 rfl 28 _ rfl rfl ?_
  intro w0
  refine JC_norm ⟨28, [], [_, _, _, _, _, _, _, _, _, _, _, _, _, _, _, _, _, _, _, _, _, _, _, _, _, _, _, _]⟩ [] [_, _] rfl rfl rfl ?_
  refine JC_seq ?_
  refine JC_region ?_
  refine JL_box rfl rfl (fun b2 => ?_)
  refine JL_box rfl rfl (fun b3 => ?_)
  refine JL_alloc z34 (fun b4 => ?_)
  refine JL_alloc z34 (fun b5 => ?_)
  refine JL_assign rfl ?_
  refine JL_done_up 28 [box _ _ [_], box _ _ [_], box _ _ [_], box _ _ [_]] [_, _] rfl rfl (by simp only [nrmF]; rfl) rfl rfl ?_
  refine JC_seq ?_
  refine JC_region ?_
  refine JL_loadA (vs := [_]) 1 ty34 rfl rfl ⟨rfl, trivial⟩ ?_
  refine JL_callF' (Asks.cons (holds_of_mem (by repeat (first | with_reducible exact mm0 | refine mmS ?_))) Asks.nil) (limbs_con _ _ _ _ _ g2) rfl ca47 ⟨rfl, rfl⟩ ?_
  rintro _ _ ⟨ad11, cap11, rfl, hk11, hm11, rfl⟩
  refine JL_assign rfl ?_
  refine JL_done_up 28 [box _ _ [_], box _ _ [_], box _ _ [_], box _ _ [_]] [_, _, _] rfl rfl (by simp only [nrmF]; rfl) rfl rfl ?_
  refine JC_seq ?_
  refine JC_seq ?_
  refine JC_region ?_
  refine JL_move rfl ?_
  refine JL_len sl32 rfl ?_
  refine JL_eql rfl rfl ?_
  refine JL_split (fun h14 => ?_) (fun h14 => ?_)
  · exact absurd h14 (by omega)
  · refine JL_done_up 28 [box _ _ [_], box _ _ [_], box _ _ [_], box _ _ [_]] [_, _, _] rfl rfl (by simp only [nrmF]; rfl) rfl rfl ?_
    refine JC_false rfl ?_
    refine JC_skip ?_
    refine JE_then ?_
    refine JC_seq ?_
    refine JC_region ?_
    refine JL_loadA (vs := [_]) 0 ty34 rfl rfl ⟨rfl, trivial⟩ ?_
    refine JL_callF' (Asks.cons (holds_of_mem (by repeat (first | with_reducible exact mm0 | refine mmS ?_))) Asks.nil) (limbs_con _ _ _ _ _ g1) rfl ca47 ⟨rfl, rfl⟩ ?_
    rintro _ _ ⟨ad19, cap19, rfl, hk19, hm19, rfl⟩
    refine JL_move rfl ?_
    refine JL_callA' true (AsksA.cons (holdsA_of_mem (by repeat (first | with_reducible exact mm0 | refine mmS ?_))) (AsksA.cons (holdsA_of_mem (by repeat (first | with_reducible exact mm0 | refine mmS ?_))) AsksA.nil)) (divide_con _ _ _ _ _ _ _ _ rfl rfl (by omega) (by omega) hpos (by omega) (by omega)) rfl ca60 ⟨rfl, rfl, rfl⟩ ?_
    rintro _ _ ⟨ad21, cap21, ae21, caq21, rfl, hk21, hm21, hkq21, hmq21, rfl⟩
    refine JL_move rfl ?_
    refine JL_extract rfl rfl ?_
    refine JL_extract rfl rfl ?_
    refine JL_assign rfl ?_
    refine JL_assign rfl ?_
    refine JL_done_up 28 [box _ _ [_], box _ _ [_], box _ _ [_], box _ _ [_]] [_, _, _, _, _, _] rfl rfl (by simp only [nrmF]; rfl) rfl rfl ?_
    refine JC_seq ?_
    refine JC_region ?_
    refine JL_move rfl ?_
    refine JL_callA' true (AsksA.cons (holdsA_of_mem (by repeat (first | with_reducible exact mm0 | refine mmS ?_))) AsksA.nil) (made_con _ _ _ _ _ DIn.of (by omega) (by omega)) rfl ca48 ⟨rfl, rfl⟩ ?_
    rintro _ _ ⟨ad25, cap25, rfl, hk25, hm25, rfl⟩
    refine JL_move rfl ?_
    refine JL_callA' true (AsksA.cons (holdsA_of_mem (by repeat (first | with_reducible exact mm0 | refine mmS ?_))) AsksA.nil) (made_con _ _ _ _ _ DIn.of (by omega) (by omega)) rfl ca48 ⟨rfl, rfl⟩ ?_
    rintro _ _ ⟨ad27, cap27, rfl, hk27, hm27, rfl⟩
    refine JL_store (vs := [_]) 2 ty34 rfl rfl rfl (AllOne.cons rfl AllOne.nil) rfl (Nat.le_of_ble_eq_true rfl) ?_
    refine JL_store (vs := [_]) 3 ty34 rfl rfl rfl (AllOne.cons rfl AllOne.nil) rfl (Nat.le_of_ble_eq_true rfl) ?_
    refine JL_assign rfl ?_
    refine JL_done_up 28 [box _ _ [_], box _ _ [_], box _ _ [_], box _ _ [_]] [_, _, _, _, _, _, _, _] rfl rfl (by simp only [nrmF]; rfl) rfl rfl ?_
    refine JC_ret ?_
    refine JE_ret (vs := [_, _, _]) [vCells ad25 (u32s (limbsOf (x1 / x2))), vCells ad27 (u32s (limbsOf (x1 % x2)))] Tryd.results52 ⟨RV.cell (vs := [_]) 2 ty34 rfl rfl ⟨rfl, trivial⟩, RV.cell (vs := [_]) 3 ty34 rfl rfl ⟨rfl, trivial⟩, rfl, rfl⟩ ?_ ?_
    · exact ⟨ad25, cap25, ad27, cap27, rfl, hk25, hm25, hk27, hm27, rfl⟩
    · exact (all_cons (by repeat (first | with_reducible exact mm0 | refine mmS ?_)) (all_cons (by repeat (first | with_reducible exact mm0 | refine mmS ?_)) all_nil))

theorem nat_gcd_con (ad1 : Option Addr) (n1 c1 : Nat) (L1 : List Nat) (x1 : Nat) (g1 : NIn n1 L1 x1 100000000) (ad2 : Option Addr) (n2 c2 : Nat) (L2 : List Nat) (x2 : Nat) (g2 : NIn n2 L2 x2 100000000) :
    ConF Tryd.prog 51 [.agg #[.slice ad1 n1 c1], .agg #[.slice ad2 n2 c2]] [vCells ad1 (u32s L1), vCells ad2 (u32s L2)]
      (LN (Nat.gcd x1 x2)) := by
  have hs1 := g1.sz
  have hl1 := g1.le
  have hs2 := g2.sz
  have hl2 := g2.le
  refine ConF_of Tryd.func51 rfl 26 _ rfl rfl ?_
  intro w0
  refine JC_norm ⟨26, [], [_, _, _, _, _, _, _, _, _, _, _, _, _, _, _, _, _, _, _, _, _, _, _, _, _, _]⟩ [] [_, _] rfl rfl rfl ?_
  refine JC_seq ?_
  refine JC_region ?_
  refine JL_box rfl rfl (fun b2 => ?_)
  refine JL_box rfl rfl (fun b3 => ?_)
  refine JL_alloc z34 (fun b4 => ?_)
  refine JL_done_up 26 [box _ _ [_], box _ _ [_], box _ _ [_]] [_, _] rfl rfl (by simp only [nrmF]; rfl) rfl rfl ?_
  refine JC_seq ?_
  refine JC_drawT mixed 3 [spV 9 [] _, spC 10 [0] _, spV 11 [] _] ⟨OblS_V (fun vals ex ψ => (by
      refine JL_normQ ⟨26, [(9, _), (10, _), (11, _)], _⟩ (_ :: _ :: ψ) rfl rfl ?_
      refine JL_loadA (vs := [_]) 0 ty34 rfl rfl ⟨rfl, trivial⟩ ?_
      exact JL_nil (JE_stepV rfl ss0))), OblS_C (fun vals ex ψ => (by
      refine JL_normQ ⟨26, [(9, _), (10, _), (11, _)], _⟩ (_ :: _ :: ψ) rfl rfl ?_
      refine JL_callF' (Asks.cons (holds_of_mem (by repeat (first | with_reducible exact mm0 | refine mmS ?_))) Asks.nil) (limbs_con _ _ _ _ _ g1) rfl ca47 ⟨rfl, rfl⟩ ?_
      exact fun v φo hP => JL_nil (JE_stepC φo rfl hP (fun p hp => mapB_l hp) (fun p hp => mapB_r (ss0 p hp))))), OblS_V (fun vals ex ψ => (by
      refine JL_normQ ⟨26, [(9, _), (10, _), (11, _)], _⟩ (_ :: _ :: ψ) rfl rfl ?_
      refine JL_loadA (vs := [_]) 1 ty34 rfl rfl ⟨rfl, trivial⟩ ?_
      exact JL_nil (JE_stepV rfl ss0))), trivial⟩ (by kernel_rfl) (fun vals bs => ?_)
  refine JL_normL [_, _, _] ⟨26, [(9, _), (10, _), (11, _)], _⟩ [box _ _ [_], box _ _ [_], box _ _ [_]] [_, _, _] rfl rfl rfl rfl ?_
  generalize vals (0 + 1) = x10
  refine JL_usePost mm0 (fun φo hP => ?_)
  obtain ⟨ad10, cap10, rfl, hk10, hm10, rfl⟩ := hP
  refine JL_norm _ [box _ _ [_], box _ _ [_], box _ _ [_]] [_, _, _, _] rfl rfl rfl ?_
  refine JL_callF' (Asks.cons (holds_of_mem (by repeat (first | with_reducible exact mm0 | refine mmS ?_))) Asks.nil) (limbs_con _ _ _ _ _ g2) rfl ca47 ⟨rfl, rfl⟩ ?_
  rintro _ _ ⟨ad12, cap12, rfl, hk12, hm12, rfl⟩
  refine JL_assign rfl ?_
  refine JL_assign rfl ?_
  refine JL_done_up 26 [box _ _ [_], box _ _ [_], box _ _ [_]] [_, _, _, _, _] rfl rfl (by simp only [nrmF]; rfl) rfl rfl ?_
  refine JC_seq ?_
  refine JC_block ?_
  refine JC_loopS ((Option Addr) × (Nat) × (Nat) × (Option Addr) × (Nat) × (Nat)) (fun (a1, k1, x, a2, k2, y) => Nat.gcd x y = Nat.gcd x1 x2 ∧ (limbsOf x).length ≤ k1 ∧ k1 ≤ 9223372036854775807 ∧ (limbsOf y).length ≤ k2 ∧ k2 ≤ 9223372036854775807 ∧ (limbsOf x).length ≤ 100000001 ∧ (limbsOf y).length ≤ 100000001) (fun (a1, k1, x, a2, k2, y) => y) (fun u (a1, k1, x, a2, k2, y) => [none, none, none, none, none, some (.slice a1 (limbsOf x).length k1), some (.slice a2 (limbsOf y).length k2), some (u 7), some (u 8), none, none, none, none, some (u 13), some (u 14), some (u 15), some (u 16), some (u 17), some (u 18), some (u 19), some (u 20), some (u 21), some (u 22), some (u 23), none, none]) (fun (a1, k1, x, a2, k2, y) => [none, none, none]) (fun (a1, k1, x, a2, k2, y) => [(true, vCells a1 (u32s (limbsOf x))), (true, vCells a2 (u32s (limbsOf y)))]) (ad10, cap10, x1, ad12, cap12, x2) (by kernel_rfl) ?_ (by kernel_rfl) ?_ ?_
  · exact ⟨rfl, hk10, hm10, hk12, hm12, by omega, by omega⟩
  · exact (subset_cons (by repeat (first | with_reducible exact mm0 | refine mmS ?_)) (subset_cons (by repeat (first | with_reducible exact mm0 | refine mmS ?_)) subset_nil))
  intro u i hC
  obtain ⟨a1, k1, x, a2, k2, y⟩ := i
  obtain ⟨hg, hk1, hm1, hk2, hm2, hb1, hb2⟩ := hC
  refine JC_norm ⟨26, [], [_, _, _, _, _, _, _, _, _, _, _, _, _, _, _, _, _, _, _, _, _, _, _, _, _, _]⟩ [box _ _ [_], box _ _ [_], box _ _ [_]] [_, _, _, _, _, _, _] rfl rfl rfl ?_
  refine JC_seq ?_
  refine JC_seq ?_
  refine JC_region ?_
  refine JL_move rfl ?_
  refine JL_len sl32 rfl ?_
  refine JL_gtr rfl rfl ?_
  refine JL_split (fun h15 => ?_) (fun h15 => ?_)
  · have hy0 : 0 < y := limbs_pos (by omega)
    have hml := len_limbsOf_le (Nat.le_of_lt (Nat.mod_lt x hy0))
    refine JL_done_up 26 [box _ _ [_], box _ _ [_], box _ _ [_]] [_, _, _, _, _, _, _] rfl rfl (by simp only [nrmF]; rfl) rfl rfl ?_
    refine JC_true rfl ?_
    refine JC_skip ?_
    refine JE_then ?_
    refine JC_block ?_
    refine JC_seq ?_
    refine JC_region ?_
    refine JL_move rfl ?_
    refine JL_move rfl ?_
    refine JL_callA' true (AsksA.cons (holdsA_of_mem (by repeat (first | with_reducible exact mm0 | refine mmS ?_))) (AsksA.cons (holdsA_of_mem (by repeat (first | with_reducible exact mm0 | refine mmS ?_))) AsksA.nil)) (divide_con _ _ _ _ _ _ _ _ rfl rfl (by omega) (by omega) hy0 (by omega) (by omega)) rfl ca60 ⟨rfl, rfl, rfl⟩ ?_
    rintro _ _ ⟨ad19, cap19, ae19, caq19, rfl, hk19, hm19, hkq19, hmq19, rfl⟩
    refine JL_move rfl ?_
    refine JL_extract rfl rfl ?_
    refine JL_extract rfl rfl ?_
    refine JL_assign rfl ?_
    refine JL_assign rfl ?_
    refine JL_done_up 26 [box _ _ [_], box _ _ [_], box _ _ [_]] [_, _, _, _, _, _, _, _, _] rfl rfl (by simp only [nrmF]; rfl) rfl rfl ?_
    refine JC_region ?_
    refine JL_move rfl ?_
    refine JL_move rfl ?_
    refine JL_assign rfl ?_
    refine JL_assign rfl ?_
    refine JL_nil_up 26 [box _ _ [_], box _ _ [_], box _ _ [_]] [_, _, _, _, _, _, _, _, _] rfl rfl (by simp only [nrmF]; rfl) rfl rfl ?_
    refine JE_block_normal ?_
    refine JE_nextS (a2, k2, y, ae19, caq19, x % y) (by kernel_rfl) ?_ ?_ (by kernel_rfl) ?_
    · exact ⟨by rw [← hg, Nat.gcd_comm y, ← Nat.gcd_rec, Nat.gcd_comm], hk2, hm2, hkq19, hmq19, hb2, by omega⟩
    · exact Nat.mod_lt x hy0
    · exact subset_app (subset_cons (by repeat (first | with_reducible exact mm0 | refine mmS ?_)) (subset_cons (by repeat (first | with_reducible exact mm0 | refine mmS ?_)) subset_nil)) (ssS (ssS (ssS (ssS ss0))))
  · have hy0 : y = 0 := limbs_zero (by omega)
    have hgx : Nat.gcd x1 x2 = x := by rw [← hg, hy0, Nat.gcd_zero_right]
    refine JL_done_up 26 [box _ _ [_], box _ _ [_], box _ _ [_]] [_, _, _, _, _, _, _] rfl rfl (by simp only [nrmF]; rfl) rfl rfl ?_
    refine JC_false rfl ?_
    refine JC_exit ?_
    refine JE_then_exit ?_
    refine JE_nextS_exit ?_
    refine JE_block_exit ?_
    refine JE_then ?_
    refine JC_seq ?_
    refine JC_region ?_
    refine JL_move rfl ?_
    refine JL_callA' true (AsksA.cons (holdsA_of_mem (by repeat (first | with_reducible exact mm0 | refine mmS ?_))) AsksA.nil) (made_con _ _ _ _ (Nat.gcd x1 x2) ⟨rfl, dig_limbsOf _, by rw [val_limbsOf, hgx]⟩ (by omega) (by omega)) rfl ca48 ⟨rfl, rfl⟩ ?_
    rintro _ _ ⟨ad25, cap25, rfl, hk25, hm25, rfl⟩
    refine JL_store (vs := [_]) 2 ty34 rfl rfl rfl (AllOne.cons rfl AllOne.nil) rfl (Nat.le_of_ble_eq_true rfl) ?_
    refine JL_done_up 26 [box _ _ [_], box _ _ [_], box _ _ [_]] [_, _, _, _, _, _, _, _] rfl rfl (by simp only [nrmF]; rfl) rfl rfl ?_
    refine JC_ret ?_
    refine JE_ret (vs := [_]) [vCells ad25 (u32s (limbsOf (Nat.gcd x1 x2)))] Tryd.results51 ⟨RV.cell (vs := [_]) 2 ty34 rfl rfl ⟨rfl, trivial⟩, rfl⟩ ?_ ?_
    · exact ⟨ad25, cap25, rfl, hk25, hm25, rfl⟩
    · exact (all_cons (by repeat (first | with_reducible exact mm0 | refine mmS ?_)) all_nil)

end Go.Fw.K
