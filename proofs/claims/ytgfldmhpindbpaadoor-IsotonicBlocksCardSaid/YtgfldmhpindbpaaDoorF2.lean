/- Walks through functions of the given program: each meets its contract. (Printed by a program of this repo.) -/
import Derived.Test.YtgfldmhpindbpaaDoorF1
import Derived.Test.YtgfldmhpindbpaaDoorProg
namespace Go.Fw.F2
open Go Go.RowKit Go.Proofs Go.Nat9 Go.Fw
attribute [local irreducible] JC JL JE
theorem ca37 : callable Tryd.prog 37 = true := by kernel_rfl
theorem ca38 : callable Tryd.prog 38 = true := by kernel_rfl
theorem ca39 : callable Tryd.prog 39 = true := by kernel_rfl
theorem ca45 : callable Tryd.prog 45 = true := by kernel_rfl
theorem fo36_0 : fOf Tryd.prog 36 0 = some 0 := by kernel_rfl
theorem fo36_1 : fOf Tryd.prog 36 1 = some 1 := by kernel_rfl
theorem fo36_2 : fOf Tryd.prog 36 2 = some 2 := by kernel_rfl
theorem mixed : Tryd.prog.follows .mixedOrders = true := by kernel_rfl
theorem ty34 : tyOf Tryd.prog 34 = some (true, 1) := by kernel_rfl
theorem ty36 : tyOf Tryd.prog 36 = some (true, 3) := by kernel_rfl
theorem ty4 : tyOf Tryd.prog 4 = some (false, 1) := by kernel_rfl
theorem ub4 : Tryd.prog.underlying 4 = some .bool := by kernel_rfl
theorem z36 : zeroOf Tryd.prog 36 = some [.bool false, .slice none 0 0, .slice none 0 0] := by kernel_rfl
end Go.Fw.F2
namespace Go.Fw.K
open Go Go.RowKit Go.Proofs Go.Nat9 Go.Fw Go.Fw.F2
attribute [local irreducible] JC JL JE

theorem fnorm_con {s1 : Bool} {ad1 : Option Addr} {n1 c1 : Nat} {L1 : List Nat} {be1 : Option Addr} {m1 e1 : Nat} {M1 : List Nat} {q1 : Rat} (g1 : FIn s1 n1 L1 m1 M1 q1 10000000) :
    ConF Tryd.prog 40 [.agg #[.bool s1, .slice ad1 n1 c1, .slice be1 m1 e1]] [vCells ad1 (u32s L1), vCells be1 (u32s M1)]
      (FO (some q1)) := by
  refine ConF_of Tryd.func40 rfl 10 _ rfl rfl ?_
  intro w0
  refine JC_norm ⟨10, [], [_, _, _, _, _, _, _, _, _, _]⟩ [] [_, _] rfl rfl rfl ?_
  refine JC_seq ?_
  refine JC_region ?_
  refine JL_box rfl rfl (fun b1 => ?_)
  refine JL_alloc z36 (fun b2 => ?_)
  refine JL_done_up 10 [box _ _ [_, _, _], box _ _ [_, _, _]] [_, _] rfl rfl (by simp only [nrmF]; rfl) rfl rfl ?_
  refine JC_seq ?_
  refine JC_region ?_
  refine JL_fieldAddr fo36_0 rfl ?_
  refine JL_load 0 ty4 rfl rfl rfl ?_
  refine JL_fieldAddr fo36_1 rfl ?_
  refine JL_loadA (vs := [_]) 0 ty34 rfl rfl ⟨rfl, trivial⟩ ?_
  refine JL_fieldAddr fo36_2 rfl ?_
  refine JL_loadA (vs := [_]) 0 ty34 rfl rfl ⟨rfl, trivial⟩ ?_
  refine JL_callF' (Asks.cons (holds_of_mem (by repeat (first | with_reducible exact mm0 | refine mmS ?_))) (Asks.cons (holds_of_mem (by repeat (first | with_reducible exact mm0 | refine mmS ?_))) Asks.nil)) (fmade_con (g1.num.mono (by omega)) (g1.den.mono (by omega)) g1.eq) rfl ca38 ⟨rfl, rfl, rfl, rfl⟩ ?_
  rintro _ _ ⟨ad9, cp9, be9, ce9, rfl, rfl⟩
  refine JL_store (vs := [_, _, _]) 1 ty36 rfl rfl rfl (AllOne.cons rfl (AllOne.cons rfl (AllOne.cons rfl AllOne.nil))) rfl (Nat.le_of_ble_eq_true rfl) ?_
  refine JL_done_up 10 [box _ _ [_, _, _], box _ _ [_, _, _]] [_, _, _, _] rfl rfl (by simp only [nrmF]; rfl) rfl rfl ?_
  refine JC_ret ?_
  refine JE_ret (vs := [_]) [vCells ad9 (u32s (fnum (some (q1)))), vCells be9 (u32s (fden (some (q1))))] Tryd.results40 ⟨RV.cell (vs := [_, _, _]) 1 ty36 rfl rfl ⟨rfl, rfl, rfl, trivial⟩, rfl⟩ ?_ ?_
  · exact ⟨ad9, cp9, be9, ce9, rfl, rfl⟩
  · exact (all_cons (by repeat (first | with_reducible exact mm0 | refine mmS ?_)) (all_cons (by repeat (first | with_reducible exact mm0 | refine mmS ?_)) all_nil))

theorem fneg_con {s1 : Bool} {ad1 : Option Addr} {n1 c1 : Nat} {L1 : List Nat} {be1 : Option Addr} {m1 e1 : Nat} {M1 : List Nat} {q1 : Rat} (g1 : FIn s1 n1 L1 m1 M1 q1 10000000) :
    ConF Tryd.prog 15 [.agg #[.bool s1, .slice ad1 n1 c1, .slice be1 m1 e1]] [vCells ad1 (u32s L1), vCells be1 (u32s M1)]
      (FO (some (-q1))) := by
  refine ConF_of Tryd.func15 rfl 11 _ rfl rfl ?_
  intro w0
  refine JC_norm ⟨11, [], [_, _, _, _, _, _, _, _, _, _, _]⟩ [] [_, _] rfl rfl rfl ?_
  refine JC_seq ?_
  refine JC_region ?_
  refine JL_box rfl rfl (fun b1 => ?_)
  refine JL_alloc z36 (fun b2 => ?_)
  refine JL_done_up 11 [box _ _ [_, _, _], box _ _ [_, _, _]] [_, _] rfl rfl (by simp only [nrmF]; rfl) rfl rfl ?_
  refine JC_seq ?_
  refine JC_region ?_
  refine JL_fieldAddr fo36_0 rfl ?_
  refine JL_load 0 ty4 rfl rfl rfl ?_
  refine JL_not rfl ?_
  refine JL_fieldAddr fo36_1 rfl ?_
  refine JL_loadA (vs := [_]) 0 ty34 rfl rfl ⟨rfl, trivial⟩ ?_
  refine JL_fieldAddr fo36_2 rfl ?_
  refine JL_loadA (vs := [_]) 0 ty34 rfl rfl ⟨rfl, trivial⟩ ?_
  refine JL_callF' (Asks.cons (holds_of_mem (by repeat (first | with_reducible exact mm0 | refine mmS ?_))) (Asks.cons (holds_of_mem (by repeat (first | with_reducible exact mm0 | refine mmS ?_))) Asks.nil)) (fmade_con (g1.num.mono (by omega)) (g1.den.mono (by omega)) (by rw [mkq_neg, g1.eq])) rfl ca38 ⟨rfl, rfl, rfl, rfl⟩ ?_
  rintro _ _ ⟨ad10, cp10, be10, ce10, rfl, rfl⟩
  refine JL_store (vs := [_, _, _]) 1 ty36 rfl rfl rfl (AllOne.cons rfl (AllOne.cons rfl (AllOne.cons rfl AllOne.nil))) rfl (Nat.le_of_ble_eq_true rfl) ?_
  refine JL_done_up 11 [box _ _ [_, _, _], box _ _ [_, _, _]] [_, _, _, _] rfl rfl (by simp only [nrmF]; rfl) rfl rfl ?_
  refine JC_ret ?_
  refine JE_ret (vs := [_]) [vCells ad10 (u32s (fnum (some (-q1)))), vCells be10 (u32s (fden (some (-q1))))] Tryd.results15 ⟨RV.cell (vs := [_, _, _]) 1 ty36 rfl rfl ⟨rfl, rfl, rfl, trivial⟩, rfl⟩ ?_ ?_
  · exact ⟨ad10, cp10, be10, ce10, rfl, rfl⟩
  · exact (all_cons (by repeat (first | with_reducible exact mm0 | refine mmS ?_)) (all_cons (by repeat (first | with_reducible exact mm0 | refine mmS ?_)) all_nil))

theorem fofi_con (n d : Int) (hn : -9223372036854775808 ≤ n ∧ n ≤ 9223372036854775807) (hn2 : -9223372036854775808 ≤ d ∧ d ≤ 9223372036854775807) :
    ConF Tryd.prog 19 [.int .i64 n, .int .i64 d] []
      (FO (some (ofq n d))) := by
  have h1 : (limbsOf n.natAbs).length ≤ 3 := limbsOf_len_of_lt (by omega)
  have h2 : (limbsOf d.natAbs).length ≤ 3 := limbsOf_len_of_lt (by omega)
  refine ConF_of Tryd.func19 rfl 15 _ rfl rfl ?_
  intro w0
  refine JC_norm ⟨15, [], [_, _, _, _, _, _, _, _, _, _, _, _, _, _, _]⟩ [] [] rfl rfl rfl ?_
  refine JC_seq ?_
  refine JC_region ?_
  refine JL_alloc z36 (fun b4 => ?_)
  refine JL_done_up 15 [box _ _ [_, _, _]] [] rfl rfl (by simp only [nrmF]; rfl) rfl rfl ?_
  refine JC_seq ?_
  refine JC_region ?_
  refine JL_move rfl ?_
  refine JL_lss rfl rfl ?_
  refine JL_move rfl ?_
  refine JL_lss rfl rfl ?_
  refine JL_neqB ub4 rfl rfl ?_
  refine JL_move rfl ?_
  refine JL_callF' Asks.nil (fmag_con hn) rfl ca39 ⟨rfl, rfl⟩ ?_
  rintro _ _ ⟨ad11, cap11, rfl, hk11, hm11, rfl⟩
  refine JL_move rfl ?_
  refine JL_callF' Asks.nil (fmag_con hn2) rfl ca39 ⟨rfl, rfl⟩ ?_
  rintro _ _ ⟨ad13, cap13, rfl, hk13, hm13, rfl⟩
  refine JL_callF' (Asks.cons (holds_of_mem (by repeat (first | with_reducible exact mm0 | refine mmS ?_))) (Asks.cons (holds_of_mem (by repeat (first | with_reducible exact mm0 | refine mmS ?_))) Asks.nil)) (fmade_con (q := ofq n d) (NIn.of (by omega)) (NIn.of (by omega)) rfl) rfl ca38 ⟨rfl, rfl, rfl, rfl⟩ ?_
  rintro _ _ ⟨ad14, cp14, be14, ce14, rfl, rfl⟩
  refine JL_store (vs := [_, _, _]) 0 ty36 rfl rfl rfl (AllOne.cons rfl (AllOne.cons rfl (AllOne.cons rfl AllOne.nil))) rfl (Nat.le_of_ble_eq_true rfl) ?_
  refine JL_done_up 15 [box _ _ [_, _, _]] [_, _, _, _] rfl rfl (by simp only [nrmF]; rfl) rfl rfl ?_
  refine JC_ret ?_
  refine JE_ret (vs := [_]) [vCells ad14 (u32s (fnum (some (ofq n d)))), vCells be14 (u32s (fden (some (ofq n d))))] Tryd.results19 ⟨RV.cell (vs := [_, _, _]) 0 ty36 rfl rfl ⟨rfl, rfl, rfl, trivial⟩, rfl⟩ ?_ ?_
  · exact ⟨ad14, cp14, be14, ce14, rfl, rfl⟩
  · exact (all_cons (by repeat (first | with_reducible exact mm0 | refine mmS ?_)) (all_cons (by repeat (first | with_reducible exact mm0 | refine mmS ?_)) all_nil))

theorem fmulq_con {s1 : Bool} {ad1 : Option Addr} {n1 c1 : Nat} {L1 : List Nat} {be1 : Option Addr} {m1 e1 : Nat} {M1 : List Nat} {q1 : Rat} (g1 : FIn s1 n1 L1 m1 M1 q1 10000000) {s2 : Bool} {ad2 : Option Addr} {n2 c2 : Nat} {L2 : List Nat} {be2 : Option Addr} {m2 e2 : Nat} {M2 : List Nat} {q2 : Rat} (g2 : FIn s2 n2 L2 m2 M2 q2 10000000) :
    ConF Tryd.prog 21 [.agg #[.bool s1, .slice ad1 n1 c1, .slice be1 m1 e1], .agg #[.bool s2, .slice ad2 n2 c2, .slice be2 m2 e2]] [vCells ad1 (u32s L1), vCells be1 (u32s M1), vCells ad2 (u32s L2), vCells be2 (u32s M2)]
      (FO (some (q1 * q2))) := by
  have hs1n := g1.num.sz
  have hl1n := g1.num.le
  have hs1d := g1.den.sz
  have hl1d := g1.den.le
  have hs2n := g2.num.sz
  have hl2n := g2.num.le
  have hs2d := g2.den.sz
  have hl2d := g2.den.le
  have hmA := len_limbsOf_mul (val L1) (val L2)
  have hmB := len_limbsOf_mul (val M1) (val M2)
  refine ConF_of Tryd.func21 rfl 21 _ rfl rfl ?_
  intro w0
  refine JC_norm ⟨21, [], [_, _, _, _, _, _, _, _, _, _, _, _, _, _, _, _, _, _, _, _, _]⟩ [] [_, _, _, _] rfl rfl rfl ?_
  refine JC_seq ?_
  refine JC_region ?_
  refine JL_box rfl rfl (fun b2 => ?_)
  refine JL_box rfl rfl (fun b3 => ?_)
  refine JL_alloc z36 (fun b4 => ?_)
  refine JL_done_up 21 [box _ _ [_, _, _], box _ _ [_, _, _], box _ _ [_, _, _]] [_, _, _, _] rfl rfl (by simp only [nrmF]; rfl) rfl rfl ?_
  refine JC_seq ?_
  refine JC_drawT mixed 15 [spV 5 [] _, spV 6 [0] _, spV 7 [] _, spV 8 [2] _, spV 9 [1, 3] _, spV 10 [] _, spV 11 [5] _, spV 12 [] _, spV 13 [7] _, spC 14 [6, 8] _, spV 15 [] _, spV 16 [10] _, spV 17 [] _, spV 18 [12] _, spC 19 [11, 13] _] ⟨OblS_V (fun vals ex ψ => (by
      refine JL_normQ ⟨21, [(5, _), (6, _), (7, _), (8, _), (9, _), (10, _), (11, _), (12, _), (13, _), (14, _), (15, _), (16, _), (17, _), (18, _), (19, _)], _⟩ (_ :: _ :: _ :: _ :: ψ) rfl rfl ?_
      refine JL_fieldAddr fo36_0 rfl ?_
      exact JL_nil (JE_stepV rfl ss0))), OblS_V (fun vals ex ψ => (by
      refine JL_normQ ⟨21, [(5, _), (6, _), (7, _), (8, _), (9, _), (10, _), (11, _), (12, _), (13, _), (14, _), (15, _), (16, _), (17, _), (18, _), (19, _)], _⟩ (_ :: _ :: _ :: _ :: ψ) rfl rfl ?_
      refine JL_load 0 ty4 rfl rfl rfl ?_
      exact JL_nil (JE_stepV rfl ss0))), OblS_V (fun vals ex ψ => (by
      refine JL_normQ ⟨21, [(5, _), (6, _), (7, _), (8, _), (9, _), (10, _), (11, _), (12, _), (13, _), (14, _), (15, _), (16, _), (17, _), (18, _), (19, _)], _⟩ (_ :: _ :: _ :: _ :: ψ) rfl rfl ?_
      refine JL_fieldAddr fo36_0 rfl ?_
      exact JL_nil (JE_stepV rfl ss0))), OblS_V (fun vals ex ψ => (by
      refine JL_normQ ⟨21, [(5, _), (6, _), (7, _), (8, _), (9, _), (10, _), (11, _), (12, _), (13, _), (14, _), (15, _), (16, _), (17, _), (18, _), (19, _)], _⟩ (_ :: _ :: _ :: _ :: ψ) rfl rfl ?_
      refine JL_load 1 ty4 rfl rfl rfl ?_
      exact JL_nil (JE_stepV rfl ss0))), OblS_V (fun vals ex ψ => (by
      refine JL_normQ ⟨21, [(5, _), (6, _), (7, _), (8, _), (9, _), (10, _), (11, _), (12, _), (13, _), (14, _), (15, _), (16, _), (17, _), (18, _), (19, _)], _⟩ (_ :: _ :: _ :: _ :: ψ) rfl rfl ?_
      refine JL_neqB ub4 rfl rfl ?_
      exact JL_nil (JE_stepV rfl ss0))), OblS_V (fun vals ex ψ => (by
      refine JL_normQ ⟨21, [(5, _), (6, _), (7, _), (8, _), (9, _), (10, _), (11, _), (12, _), (13, _), (14, _), (15, _), (16, _), (17, _), (18, _), (19, _)], _⟩ (_ :: _ :: _ :: _ :: ψ) rfl rfl ?_
      refine JL_fieldAddr fo36_1 rfl ?_
      exact JL_nil (JE_stepV rfl ss0))), OblS_V (fun vals ex ψ => (by
      refine JL_normQ ⟨21, [(5, _), (6, _), (7, _), (8, _), (9, _), (10, _), (11, _), (12, _), (13, _), (14, _), (15, _), (16, _), (17, _), (18, _), (19, _)], _⟩ (_ :: _ :: _ :: _ :: ψ) rfl rfl ?_
      refine JL_loadA (vs := [_]) 0 ty34 rfl rfl ⟨rfl, trivial⟩ ?_
      exact JL_nil (JE_stepV rfl ss0))), OblS_V (fun vals ex ψ => (by
      refine JL_normQ ⟨21, [(5, _), (6, _), (7, _), (8, _), (9, _), (10, _), (11, _), (12, _), (13, _), (14, _), (15, _), (16, _), (17, _), (18, _), (19, _)], _⟩ (_ :: _ :: _ :: _ :: ψ) rfl rfl ?_
      refine JL_fieldAddr fo36_1 rfl ?_
      exact JL_nil (JE_stepV rfl ss0))), OblS_V (fun vals ex ψ => (by
      refine JL_normQ ⟨21, [(5, _), (6, _), (7, _), (8, _), (9, _), (10, _), (11, _), (12, _), (13, _), (14, _), (15, _), (16, _), (17, _), (18, _), (19, _)], _⟩ (_ :: _ :: _ :: _ :: ψ) rfl rfl ?_
      refine JL_loadA (vs := [_]) 1 ty34 rfl rfl ⟨rfl, trivial⟩ ?_
      exact JL_nil (JE_stepV rfl ss0))), OblS_C (fun vals ex ψ => (by
      refine JL_normQ ⟨21, [(5, _), (6, _), (7, _), (8, _), (9, _), (10, _), (11, _), (12, _), (13, _), (14, _), (15, _), (16, _), (17, _), (18, _), (19, _)], _⟩ (_ :: _ :: _ :: _ :: ψ) rfl rfl ?_
      refine JL_callF' (Asks.cons (holds_of_mem (by repeat (first | with_reducible exact mm0 | refine mmS ?_))) (Asks.cons (holds_of_mem (by repeat (first | with_reducible exact mm0 | refine mmS ?_))) Asks.nil)) (nat_mul_con _ _ _ _ _ (g1.num.mono (by omega)) _ _ _ _ _ (g2.num.mono (by omega))) rfl ca37 ⟨rfl, rfl, rfl⟩ ?_
      exact fun v φo hP => JL_nil (JE_stepC φo rfl hP (fun p hp => mapB_l hp) (fun p hp => mapB_r (ss0 p hp))))), OblS_V (fun vals ex ψ => (by
      refine JL_normQ ⟨21, [(5, _), (6, _), (7, _), (8, _), (9, _), (10, _), (11, _), (12, _), (13, _), (14, _), (15, _), (16, _), (17, _), (18, _), (19, _)], _⟩ (_ :: _ :: _ :: _ :: ψ) rfl rfl ?_
      refine JL_fieldAddr fo36_2 rfl ?_
      exact JL_nil (JE_stepV rfl ss0))), OblS_V (fun vals ex ψ => (by
      refine JL_normQ ⟨21, [(5, _), (6, _), (7, _), (8, _), (9, _), (10, _), (11, _), (12, _), (13, _), (14, _), (15, _), (16, _), (17, _), (18, _), (19, _)], _⟩ (_ :: _ :: _ :: _ :: ψ) rfl rfl ?_
      refine JL_loadA (vs := [_]) 0 ty34 rfl rfl ⟨rfl, trivial⟩ ?_
      exact JL_nil (JE_stepV rfl ss0))), OblS_V (fun vals ex ψ => (by
      refine JL_normQ ⟨21, [(5, _), (6, _), (7, _), (8, _), (9, _), (10, _), (11, _), (12, _), (13, _), (14, _), (15, _), (16, _), (17, _), (18, _), (19, _)], _⟩ (_ :: _ :: _ :: _ :: ψ) rfl rfl ?_
      refine JL_fieldAddr fo36_2 rfl ?_
      exact JL_nil (JE_stepV rfl ss0))), OblS_V (fun vals ex ψ => (by
      refine JL_normQ ⟨21, [(5, _), (6, _), (7, _), (8, _), (9, _), (10, _), (11, _), (12, _), (13, _), (14, _), (15, _), (16, _), (17, _), (18, _), (19, _)], _⟩ (_ :: _ :: _ :: _ :: ψ) rfl rfl ?_
      refine JL_loadA (vs := [_]) 1 ty34 rfl rfl ⟨rfl, trivial⟩ ?_
      exact JL_nil (JE_stepV rfl ss0))), OblS_C (fun vals ex ψ => (by
      refine JL_normQ ⟨21, [(5, _), (6, _), (7, _), (8, _), (9, _), (10, _), (11, _), (12, _), (13, _), (14, _), (15, _), (16, _), (17, _), (18, _), (19, _)], _⟩ (_ :: _ :: _ :: _ :: ψ) rfl rfl ?_
      refine JL_callF' (Asks.cons (holds_of_mem (by repeat (first | with_reducible exact mm0 | refine mmS ?_))) (Asks.cons (holds_of_mem (by repeat (first | with_reducible exact mm0 | refine mmS ?_))) Asks.nil)) (nat_mul_con _ _ _ _ _ (g1.den.mono (by omega)) _ _ _ _ _ (g2.den.mono (by omega))) rfl ca37 ⟨rfl, rfl, rfl⟩ ?_
      exact fun v φo hP => JL_nil (JE_stepC φo rfl hP (fun p hp => mapB_l hp) (fun p hp => mapB_r (ss0 p hp))))), trivial⟩ (by kernel_rfl) (fun vals bs => ?_)
  refine JL_normL [_, _] ⟨21, [(5, _), (6, _), (7, _), (8, _), (9, _), (10, _), (11, _), (12, _), (13, _), (14, _), (15, _), (16, _), (17, _), (18, _), (19, _)], _⟩ [box _ _ [_, _, _], box _ _ [_, _, _], box _ _ [_, _, _]] [_, _, _, _, _, _] rfl rfl rfl rfl ?_
  generalize vals (0 + 1 + 1 + 1 + 1 + 1 + 1 + 1 + 1 + 1) = x14
  generalize vals (0 + 1 + 1 + 1 + 1 + 1 + 1 + 1 + 1 + 1 + 1 + 1 + 1 + 1 + 1) = x19
  refine JL_usePost mm0 (fun φo hP => ?_)
  obtain ⟨ad14, cap14, rfl, hk14, hm14, rfl⟩ := hP
  refine JL_norm _ [box _ _ [_, _, _], box _ _ [_, _, _], box _ _ [_, _, _]] [_, _, _, _, _, _, _] rfl rfl rfl ?_
  refine JL_usePost (mmS (mmS mm0)) (fun φo hP => ?_)
  obtain ⟨ad19, cap19, rfl, hk19, hm19, rfl⟩ := hP
  refine JL_norm _ [box _ _ [_, _, _], box _ _ [_, _, _], box _ _ [_, _, _]] [_, _, _, _, _, _, _, _] rfl rfl rfl ?_
  refine JL_callF' (Asks.cons (holds_of_mem (by repeat (first | with_reducible exact mm0 | refine mmS ?_))) (Asks.cons (holds_of_mem (by repeat (first | with_reducible exact mm0 | refine mmS ?_))) Asks.nil)) (fmade_con (NIn.of (by omega)) (NIn.of (by omega)) (by rw [mkq_mul, g1.eq, g2.eq])) rfl ca38 ⟨rfl, rfl, rfl, rfl⟩ ?_
  rintro _ _ ⟨ad20, cp20, be20, ce20, rfl, rfl⟩
  refine JL_store (vs := [_, _, _]) 2 ty36 rfl rfl rfl (AllOne.cons rfl (AllOne.cons rfl (AllOne.cons rfl AllOne.nil))) rfl (Nat.le_of_ble_eq_true rfl) ?_
  refine JL_done_up 21 [box _ _ [_, _, _], box _ _ [_, _, _], box _ _ [_, _, _]] [_, _, _, _, _, _, _, _, _, _] rfl rfl (by simp only [nrmF]; rfl) rfl rfl ?_
  refine JC_ret ?_
  refine JE_ret (vs := [_]) [vCells ad20 (u32s (fnum (some (q1 * q2)))), vCells be20 (u32s (fden (some (q1 * q2))))] Tryd.results21 ⟨RV.cell (vs := [_, _, _]) 2 ty36 rfl rfl ⟨rfl, rfl, rfl, trivial⟩, rfl⟩ ?_ ?_
  · exact ⟨ad20, cp20, be20, ce20, rfl, rfl⟩
  · exact (all_cons (by repeat (first | with_reducible exact mm0 | refine mmS ?_)) (all_cons (by repeat (first | with_reducible exact mm0 | refine mmS ?_)) all_nil))

theorem fsign_con {s1 : Bool} {ad1 : Option Addr} {n1 c1 : Nat} {L1 : List Nat} {be1 : Option Addr} {m1 e1 : Nat} {M1 : List Nat} {q1 : Rat} (g1 : FIn s1 n1 L1 m1 M1 q1 10000000) :
    ConF Tryd.prog 35 [.agg #[.bool s1, .slice ad1 n1 c1, .slice be1 m1 e1]] [vCells ad1 (u32s L1), vCells be1 (u32s M1)]
      (fun v φo => v = .int .i64 (sgnQ q1) ∧ φo = []) := by
  refine ConF_of Tryd.func35 rfl 15 _ rfl rfl ?_
  intro w0
  refine JC_norm ⟨15, [], [_, _, _, _, _, _, _, _, _, _, _, _, _, _, _]⟩ [] [_, _] rfl rfl rfl ?_
  refine JC_seq ?_
  refine JC_region ?_
  refine JL_box rfl rfl (fun b1 => ?_)
  refine JL_assign rfl ?_
  refine JL_done_up 15 [box _ _ [_, _, _]] [_, _] rfl rfl (by simp only [nrmF]; rfl) rfl rfl ?_
  refine JC_seq ?_
  refine JC_block ?_
  refine JC_seq ?_
  refine JC_region ?_
  refine JL_fieldAddr fo36_1 rfl ?_
  refine JL_loadA (vs := [_]) 0 ty34 rfl rfl ⟨rfl, trivial⟩ ?_
  refine JL_callF' (Asks.cons (holds_of_mem (by repeat (first | with_reducible exact mm0 | refine mmS ?_))) Asks.nil) (fzero_con (g1.num.mono (by omega))) rfl ca45 ⟨rfl, rfl⟩ ?_
  rintro _ _ ⟨rfl, rfl⟩
  refine JL_split (fun h6 => ?_) (fun h6 => ?_)
  · refine JL_move rfl ?_
    refine JL_guard_no rfl rfl ?_
    refine JL_guard_no rfl rfl ?_
    refine JL_guard_no rfl rfl ?_
    refine JL_pick_t rfl rfl ?_
    refine JL_assign rfl ?_
    refine JL_done_up 15 [box _ _ [_, _, _]] [_, _] rfl rfl (by simp only [nrmF]; rfl) rfl rfl ?_
    refine JC_true rfl ?_
    refine JC_seq ?_
    refine JC_region ?_
    refine JL_assign rfl ?_
    refine JL_done_up 15 [box _ _ [_, _, _]] [_, _] rfl rfl (by simp only [nrmF]; rfl) rfl rfl ?_
    refine JC_ret ?_
    refine JE_block_ret ?_
    refine JE_then_ret ?_
    refine JE_ret (vs := [_]) [] Tryd.results35 ⟨rfl, rfl⟩ ?_ ?_
    · exact ⟨by rw [← g1.eq, sgnQ_mkq, if_pos (by omega)]; rfl, rfl⟩
    · exact all_nil
  · refine JL_move rfl ?_
    refine JL_guard_yes rfl rfl ?_
    refine JL_fieldAddr fo36_2 rfl ?_
    refine JL_guard_yes rfl rfl ?_
    refine JL_loadA (vs := [_]) 0 ty34 rfl rfl ⟨rfl, trivial⟩ ?_
    refine JL_guard_yes rfl rfl ?_
    refine JL_callF' (Asks.cons (holds_of_mem (by repeat (first | with_reducible exact mm0 | refine mmS ?_))) Asks.nil) (fzero_con (g1.den.mono (by omega))) rfl ca45 ⟨rfl, rfl⟩ ?_
    rintro _ _ ⟨rfl, rfl⟩
    refine JL_split (fun h10 => ?_) (fun h10 => ?_)
    · refine JL_pick_f rfl rfl ?_
      refine JL_assign rfl ?_
      refine JL_done_up 15 [box _ _ [_, _, _]] [_, _] rfl rfl (by simp only [nrmF]; rfl) rfl rfl ?_
      refine JC_true rfl ?_
      refine JC_seq ?_
      refine JC_region ?_
      refine JL_assign rfl ?_
      refine JL_done_up 15 [box _ _ [_, _, _]] [_, _] rfl rfl (by simp only [nrmF]; rfl) rfl rfl ?_
      refine JC_ret ?_
      refine JE_block_ret ?_
      refine JE_then_ret ?_
      refine JE_ret (vs := [_]) [] Tryd.results35 ⟨rfl, rfl⟩ ?_ ?_
      · exact ⟨by rw [← g1.eq, sgnQ_mkq, if_pos (by omega)]; rfl, rfl⟩
      · exact all_nil
    · refine JL_pick_f rfl rfl ?_
      refine JL_assign rfl ?_
      refine JL_done_up 15 [box _ _ [_, _, _]] [_, _] rfl rfl (by simp only [nrmF]; rfl) rfl rfl ?_
      refine JC_false rfl ?_
      refine JC_seq ?_
      refine JC_region ?_
      refine JL_fieldAddr fo36_0 rfl ?_
      refine JL_load 0 ty4 rfl rfl rfl ?_
      refine JL_assign rfl ?_
      refine JL_done_up 15 [box _ _ [_, _, _]] [_, _] rfl rfl (by simp only [nrmF]; rfl) rfl rfl ?_
      refine JC_cond rfl (fun hb => ?_) (fun hb => ?_)
      · have h12 := hb
        refine JC_seq ?_
        refine JC_region ?_
        refine JL_assign rfl ?_
        refine JL_done_up 15 [box _ _ [_, _, _]] [_, _] rfl rfl (by simp only [nrmF]; rfl) rfl rfl ?_
        refine JC_ret ?_
        refine JE_block_ret ?_
        refine JE_then_ret ?_
        refine JE_ret (vs := [_]) [] Tryd.results35 ⟨rfl, rfl⟩ ?_ ?_
        · exact ⟨by rw [← g1.eq, sgnQ_mkq, if_neg (by omega), h12]; rfl, rfl⟩
        · exact all_nil
      · have h12 := hb
        refine JC_skip ?_
        refine JE_block_normal ?_
        refine JE_then ?_
        refine JC_seq ?_
        refine JC_region ?_
        refine JL_assign rfl ?_
        refine JL_done_up 15 [box _ _ [_, _, _]] [_, _] rfl rfl (by simp only [nrmF]; rfl) rfl rfl ?_
        refine JC_ret ?_
        refine JE_ret (vs := [_]) [] Tryd.results35 ⟨rfl, rfl⟩ ?_ ?_
        · exact ⟨by rw [← g1.eq, sgnQ_mkq, if_neg (by omega), h12]; rfl, rfl⟩
        · exact all_nil

end Go.Fw.K
