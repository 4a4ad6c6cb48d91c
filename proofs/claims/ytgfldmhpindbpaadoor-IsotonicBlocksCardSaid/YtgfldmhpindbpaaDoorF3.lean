/- Walks through functions of the given program: each meets its contract. (Printed by a program of this repo.) -/
import Derived.Test.YtgfldmhpindbpaaDoorF2
import Derived.Test.YtgfldmhpindbpaaDoorProg
namespace Go.Fw.F3
open Go Go.RowKit Go.Proofs Go.Nat9 Go.Fw
attribute [local irreducible] JC JL JE
theorem ca35 : callable Tryd.prog 35 = true := by kernel_rfl
theorem ca36 : callable Tryd.prog 36 = true := by kernel_rfl
theorem ca37 : callable Tryd.prog 37 = true := by kernel_rfl
theorem ca38 : callable Tryd.prog 38 = true := by kernel_rfl
theorem ca40 : callable Tryd.prog 40 = true := by kernel_rfl
theorem ca41 : callable Tryd.prog 41 = true := by kernel_rfl
theorem ca42 : callable Tryd.prog 42 = true := by kernel_rfl
theorem fo36_0 : fOf Tryd.prog 36 0 = some 0 := by kernel_rfl
theorem fo36_1 : fOf Tryd.prog 36 1 = some 1 := by kernel_rfl
theorem fo36_2 : fOf Tryd.prog 36 2 = some 2 := by kernel_rfl
theorem mixed : Tryd.prog.follows .mixedOrders = true := by kernel_rfl
theorem ty34 : tyOf Tryd.prog 34 = some (true, 1) := by kernel_rfl
theorem ty36 : tyOf Tryd.prog 36 = some (true, 3) := by kernel_rfl
theorem ty4 : tyOf Tryd.prog 4 = some (false, 1) := by kernel_rfl
theorem ub4 : Tryd.prog.underlying 4 = some .bool := by kernel_rfl
theorem z34 : zeroOf Tryd.prog 34 = some [.slice none 0 0] := by kernel_rfl
theorem z36 : zeroOf Tryd.prog 36 = some [.bool false, .slice none 0 0, .slice none 0 0] := by kernel_rfl
end Go.Fw.F3
namespace Go.Fw.K
open Go Go.RowKit Go.Proofs Go.Nat9 Go.Fw Go.Fw.F3
attribute [local irreducible] JC JL JE

theorem faddq_con {s1 : Bool} {ad1 : Option Addr} {n1 c1 : Nat} {L1 : List Nat} {be1 : Option Addr} {m1 e1 : Nat} {M1 : List Nat} {q1 : Rat} (g1 : FIn s1 n1 L1 m1 M1 q1 5000000) {s2 : Bool} {ad2 : Option Addr} {n2 c2 : Nat} {L2 : List Nat} {be2 : Option Addr} {m2 e2 : Nat} {M2 : List Nat} {q2 : Rat} (g2 : FIn s2 n2 L2 m2 M2 q2 5000000) :
    ConF Tryd.prog 20 [.agg #[.bool s1, .slice ad1 n1 c1, .slice be1 m1 e1], .agg #[.bool s2, .slice ad2 n2 c2, .slice be2 m2 e2]] [vCells ad1 (u32s L1), vCells be1 (u32s M1), vCells ad2 (u32s L2), vCells be2 (u32s M2)]
      (FO (some (q1 + q2))) := by
  have hq1 := g1.qs.mono (b := 5000001) (by decide)
  have hq2 := g2.qs.mono (b := 5000001) (by decide)
  have hb1n := hq1.1
  have hb1d := hq1.2
  have hb2n := hq2.1
  have hb2d := hq2.2
  have hmA := len_limbsOf_mul q1.num.natAbs q2.den
  have hmB := len_limbsOf_mul q2.num.natAbs q1.den
  have hmC := len_limbsOf_mul q1.den q2.den
  have hmD := len_limbsOf_add (q1.num.natAbs * q2.den) (q2.num.natAbs * q1.den)
  refine ConF_of Tryd.func20 rfl 67 _ rfl rfl ?_
  intro w0
  refine JC_norm ⟨67, [], [_, _, _, _, _, _, _, _, _, _, _, _, _, _, _, _, _, _, _, _, _, _, _, _, _, _, _, _, _, _, _, _, _, _, _, _, _, _, _, _, _, _, _, _, _, _, _, _, _, _, _, _, _, _, _, _, _, _, _, _, _, _, _, _, _, _, _]⟩ [] [_, _, _, _] rfl rfl rfl ?_
  refine JC_seq ?_
  refine JC_region ?_
  refine JL_box rfl rfl (fun b2 => ?_)
  refine JL_box rfl rfl (fun b3 => ?_)
  refine JL_alloc z36 (fun b4 => ?_)
  refine JL_done_up 67 [box _ _ [_, _, _], box _ _ [_, _, _], box _ _ [_, _, _]] [_, _, _, _] rfl rfl (by simp only [nrmF]; rfl) rfl rfl ?_
  refine JC_seq ?_
  refine JC_drawT mixed 3 [spV 12 [] _, spC 13 [0] _, spV 14 [] _] ⟨OblS_V (fun vals ex ψ => (by
      refine JL_normQ ⟨67, [(12, _), (13, _), (14, _)], _⟩ (_ :: _ :: _ :: _ :: ψ) rfl rfl ?_
      refine JL_loadA (vs := [_, _, _]) 0 ty36 rfl rfl ⟨rfl, rfl, rfl, trivial⟩ ?_
      exact JL_nil (JE_stepV rfl ss0))), OblS_C (fun vals ex ψ => (by
      refine JL_normQ ⟨67, [(12, _), (13, _), (14, _)], _⟩ (_ :: _ :: _ :: _ :: ψ) rfl rfl ?_
      refine JL_callF' (Asks.cons (holds_of_mem (by repeat (first | with_reducible exact mm0 | refine mmS ?_))) (Asks.cons (holds_of_mem (by repeat (first | with_reducible exact mm0 | refine mmS ?_))) Asks.nil)) (fnorm_con (g1.mono (by omega))) rfl ca40 ⟨rfl, rfl⟩ ?_
      exact fun v φo hP => JL_nil (JE_stepC φo rfl hP (fun p hp => mapB_l hp) (fun p hp => mapB_r (ss0 p hp))))), OblS_V (fun vals ex ψ => (by
      refine JL_normQ ⟨67, [(12, _), (13, _), (14, _)], _⟩ (_ :: _ :: _ :: _ :: ψ) rfl rfl ?_
      refine JL_loadA (vs := [_, _, _]) 1 ty36 rfl rfl ⟨rfl, rfl, rfl, trivial⟩ ?_
      exact JL_nil (JE_stepV rfl ss0))), trivial⟩ (by kernel_rfl) (fun vals bs => ?_)
  refine JL_normL [_, _, _] ⟨67, [(12, _), (13, _), (14, _)], _⟩ [box _ _ [_, _, _], box _ _ [_, _, _], box _ _ [_, _, _]] [_, _, _, _, _] rfl rfl rfl rfl ?_
  generalize vals (0 + 1) = x13
  refine JL_usePost mm0 (fun φo hP => ?_)
  obtain ⟨ad13, cp13, be13, ce13, rfl, rfl⟩ := hP
  refine JL_norm _ [box _ _ [_, _, _], box _ _ [_, _, _], box _ _ [_, _, _]] [_, _, _, _, _, _, _] rfl rfl rfl ?_
  refine JL_callF' (Asks.cons (holds_of_mem (by repeat (first | with_reducible exact mm0 | refine mmS ?_))) (Asks.cons (holds_of_mem (by repeat (first | with_reducible exact mm0 | refine mmS ?_))) Asks.nil)) (fnorm_con (g2.mono (by omega))) rfl ca40 ⟨rfl, rfl⟩ ?_
  rintro _ _ ⟨ad15, cp15, be15, ce15, rfl, rfl⟩
  refine JL_store (vs := [_, _, _]) 0 ty36 rfl rfl rfl (AllOne.cons rfl (AllOne.cons rfl (AllOne.cons rfl AllOne.nil))) rfl (Nat.le_of_ble_eq_true rfl) ?_
  refine JL_store (vs := [_, _, _]) 1 ty36 rfl rfl rfl (AllOne.cons rfl (AllOne.cons rfl (AllOne.cons rfl AllOne.nil))) rfl (Nat.le_of_ble_eq_true rfl) ?_
  refine JL_done_up 67 [box _ _ [_, _, _], box _ _ [_, _, _], box _ _ [_, _, _]] [_, _, _, _, _, _, _, _, _] rfl rfl (by simp only [nrmF]; rfl) rfl rfl ?_
  refine JC_seq ?_
  refine JC_drawT mixed 12 [spV 16 [] _, spV 17 [0] _, spV 18 [] _, spV 19 [2] _, spC 20 [1, 3] _, spV 21 [] _, spV 22 [5] _, spV 23 [] _, spV 24 [7] _, spC 25 [6, 8] _, spA 5 34 [.slice none 0 0], spA 6 34 [.slice none 0 0]] ⟨OblS_V (fun vals ex ψ => (by
      refine JL_normQ ⟨67, [(16, _), (17, _), (18, _), (19, _), (20, _), (21, _), (22, _), (23, _), (24, _), (25, _), (5, _), (6, _)], _⟩ (_ :: _ :: _ :: _ :: _ :: _ :: _ :: _ :: _ :: ψ) rfl rfl ?_
      refine JL_fieldAddr fo36_1 rfl ?_
      exact JL_nil (JE_stepV rfl ss0))), OblS_V (fun vals ex ψ => (by
      refine JL_normQ ⟨67, [(16, _), (17, _), (18, _), (19, _), (20, _), (21, _), (22, _), (23, _), (24, _), (25, _), (5, _), (6, _)], _⟩ (_ :: _ :: _ :: _ :: _ :: _ :: _ :: _ :: _ :: ψ) rfl rfl ?_
      refine JL_loadA (vs := [_]) 0 ty34 rfl rfl ⟨rfl, trivial⟩ ?_
      exact JL_nil (JE_stepV rfl ss0))), OblS_V (fun vals ex ψ => (by
      refine JL_normQ ⟨67, [(16, _), (17, _), (18, _), (19, _), (20, _), (21, _), (22, _), (23, _), (24, _), (25, _), (5, _), (6, _)], _⟩ (_ :: _ :: _ :: _ :: _ :: _ :: _ :: _ :: _ :: ψ) rfl rfl ?_
      refine JL_fieldAddr fo36_2 rfl ?_
      exact JL_nil (JE_stepV rfl ss0))), OblS_V (fun vals ex ψ => (by
      refine JL_normQ ⟨67, [(16, _), (17, _), (18, _), (19, _), (20, _), (21, _), (22, _), (23, _), (24, _), (25, _), (5, _), (6, _)], _⟩ (_ :: _ :: _ :: _ :: _ :: _ :: _ :: _ :: _ :: ψ) rfl rfl ?_
      refine JL_loadA (vs := [_]) 1 ty34 rfl rfl ⟨rfl, trivial⟩ ?_
      exact JL_nil (JE_stepV rfl ss0))), OblS_C (fun vals ex ψ => (by
      refine JL_normQ ⟨67, [(16, _), (17, _), (18, _), (19, _), (20, _), (21, _), (22, _), (23, _), (24, _), (25, _), (5, _), (6, _)], _⟩ (_ :: _ :: _ :: _ :: _ :: _ :: _ :: _ :: _ :: ψ) rfl rfl ?_
      refine JL_callF' (Asks.cons (holds_of_mem (by repeat (first | with_reducible exact mm0 | refine mmS ?_))) (Asks.cons (holds_of_mem (by repeat (first | with_reducible exact mm0 | refine mmS ?_))) Asks.nil)) (nat_mul_con _ _ _ _ _ ((NIn.num hq1).mono (by omega)) _ _ _ _ _ ((NIn.den hq2).mono (by omega))) rfl ca37 ⟨rfl, rfl, rfl⟩ ?_
      exact fun v φo hP => JL_nil (JE_stepC φo rfl hP (fun p hp => mapB_l hp) (fun p hp => mapB_r (ss0 p hp))))), OblS_V (fun vals ex ψ => (by
      refine JL_normQ ⟨67, [(16, _), (17, _), (18, _), (19, _), (20, _), (21, _), (22, _), (23, _), (24, _), (25, _), (5, _), (6, _)], _⟩ (_ :: _ :: _ :: _ :: _ :: _ :: _ :: _ :: _ :: ψ) rfl rfl ?_
      refine JL_fieldAddr fo36_1 rfl ?_
      exact JL_nil (JE_stepV rfl ss0))), OblS_V (fun vals ex ψ => (by
      refine JL_normQ ⟨67, [(16, _), (17, _), (18, _), (19, _), (20, _), (21, _), (22, _), (23, _), (24, _), (25, _), (5, _), (6, _)], _⟩ (_ :: _ :: _ :: _ :: _ :: _ :: _ :: _ :: _ :: ψ) rfl rfl ?_
      refine JL_loadA (vs := [_]) 1 ty34 rfl rfl ⟨rfl, trivial⟩ ?_
      exact JL_nil (JE_stepV rfl ss0))), OblS_V (fun vals ex ψ => (by
      refine JL_normQ ⟨67, [(16, _), (17, _), (18, _), (19, _), (20, _), (21, _), (22, _), (23, _), (24, _), (25, _), (5, _), (6, _)], _⟩ (_ :: _ :: _ :: _ :: _ :: _ :: _ :: _ :: _ :: ψ) rfl rfl ?_
      refine JL_fieldAddr fo36_2 rfl ?_
      exact JL_nil (JE_stepV rfl ss0))), OblS_V (fun vals ex ψ => (by
      refine JL_normQ ⟨67, [(16, _), (17, _), (18, _), (19, _), (20, _), (21, _), (22, _), (23, _), (24, _), (25, _), (5, _), (6, _)], _⟩ (_ :: _ :: _ :: _ :: _ :: _ :: _ :: _ :: _ :: ψ) rfl rfl ?_
      refine JL_loadA (vs := [_]) 0 ty34 rfl rfl ⟨rfl, trivial⟩ ?_
      exact JL_nil (JE_stepV rfl ss0))), OblS_C (fun vals ex ψ => (by
      refine JL_normQ ⟨67, [(16, _), (17, _), (18, _), (19, _), (20, _), (21, _), (22, _), (23, _), (24, _), (25, _), (5, _), (6, _)], _⟩ (_ :: _ :: _ :: _ :: _ :: _ :: _ :: _ :: _ :: ψ) rfl rfl ?_
      refine JL_callF' (Asks.cons (holds_of_mem (by repeat (first | with_reducible exact mm0 | refine mmS ?_))) (Asks.cons (holds_of_mem (by repeat (first | with_reducible exact mm0 | refine mmS ?_))) Asks.nil)) (nat_mul_con _ _ _ _ _ ((NIn.num hq2).mono (by omega)) _ _ _ _ _ ((NIn.den hq1).mono (by omega))) rfl ca37 ⟨rfl, rfl, rfl⟩ ?_
      exact fun v φo hP => JL_nil (JE_stepC φo rfl hP (fun p hp => mapB_l hp) (fun p hp => mapB_r (ss0 p hp))))), OblS_al rfl z34, OblS_al rfl z34, trivial⟩ (by kernel_rfl) (fun vals bs => ?_)
  refine JL_normL [_, _] ⟨67, [(16, _), (17, _), (18, _), (19, _), (20, _), (21, _), (22, _), (23, _), (24, _), (25, _), (5, _), (6, _)], _⟩ [box _ _ [_, _, _], box _ _ [_, _, _], box _ _ [_, _, _], box _ _ [_], box _ _ [_]] [_, _, _, _, _, _, _, _, _, _, _] rfl rfl rfl rfl ?_
  generalize vals (0 + 1 + 1 + 1 + 1) = x20
  generalize vals (0 + 1 + 1 + 1 + 1 + 1 + 1 + 1 + 1 + 1) = x25
  generalize bs (0 + 1 + 1 + 1 + 1 + 1 + 1 + 1 + 1 + 1 + 1) = b5
  generalize bs (0 + 1 + 1 + 1 + 1 + 1 + 1 + 1 + 1 + 1 + 1 + 1) = b6
  refine JL_usePost mm0 (fun φo hP => ?_)
  obtain ⟨ad20, cap20, rfl, hk20, hm20, rfl⟩ := hP
  refine JL_norm _ [box _ _ [_, _, _], box _ _ [_, _, _], box _ _ [_, _, _], box _ _ [_], box _ _ [_]] [_, _, _, _, _, _, _, _, _, _, _, _] rfl rfl rfl ?_
  refine JL_usePost (mmS (mmS mm0)) (fun φo hP => ?_)
  obtain ⟨ad25, cap25, rfl, hk25, hm25, rfl⟩ := hP
  refine JL_norm _ [box _ _ [_, _, _], box _ _ [_, _, _], box _ _ [_, _, _], box _ _ [_], box _ _ [_]] [_, _, _, _, _, _, _, _, _, _, _, _, _] rfl rfl rfl ?_
  refine JL_store (vs := [_]) 3 ty34 rfl rfl rfl (AllOne.cons rfl AllOne.nil) rfl (Nat.le_of_ble_eq_true rfl) ?_
  refine JL_store (vs := [_]) 4 ty34 rfl rfl rfl (AllOne.cons rfl AllOne.nil) rfl (Nat.le_of_ble_eq_true rfl) ?_
  refine JL_done_up 67 [box _ _ [_, _, _], box _ _ [_, _, _], box _ _ [_, _, _], box _ _ [_], box _ _ [_]] [_, _, _, _, _, _, _, _, _, _, _, _, _] rfl rfl (by simp only [nrmF]; rfl) rfl rfl ?_
  refine JC_seq ?_
  refine JC_region ?_
  refine JL_fieldAddr fo36_2 rfl ?_
  refine JL_loadA (vs := [_]) 0 ty34 rfl rfl ⟨rfl, trivial⟩ ?_
  refine JL_fieldAddr fo36_2 rfl ?_
  refine JL_loadA (vs := [_]) 1 ty34 rfl rfl ⟨rfl, trivial⟩ ?_
  refine JL_callF' (Asks.cons (holds_of_mem (by repeat (first | with_reducible exact mm0 | refine mmS ?_))) (Asks.cons (holds_of_mem (by repeat (first | with_reducible exact mm0 | refine mmS ?_))) Asks.nil)) (nat_mul_con _ _ _ _ _ ((NIn.den hq1).mono (by omega)) _ _ _ _ _ ((NIn.den hq2).mono (by omega))) rfl ca37 ⟨rfl, rfl, rfl⟩ ?_
  rintro _ _ ⟨ad30, cap30, rfl, hk30, hm30, rfl⟩
  refine JL_alloc z34 (fun b7 => ?_)
  refine JL_store (vs := [_]) 5 ty34 rfl rfl rfl (AllOne.cons rfl AllOne.nil) rfl (Nat.le_of_ble_eq_true rfl) ?_
  refine JL_done_up 67 [box _ _ [_, _, _], box _ _ [_, _, _], box _ _ [_, _, _], box _ _ [_], box _ _ [_], box _ _ [_]] [_, _, _, _, _, _, _, _, _, _, _, _, _, _] rfl rfl (by simp only [nrmF]; rfl) rfl rfl ?_
  refine JC_seq ?_
  refine JC_seq ?_
  refine JC_region ?_
  refine JL_fieldAddr fo36_0 rfl ?_
  refine JL_load 0 ty4 rfl rfl rfl ?_
  refine JL_fieldAddr fo36_0 rfl ?_
  refine JL_load 1 ty4 rfl rfl rfl ?_
  refine JL_eqlB ub4 rfl rfl ?_
  refine JL_splitEqB (fun h35 => ?_) (fun h35 => ?_)
  · refine JL_done_up 67 [box _ _ [_, _, _], box _ _ [_, _, _], box _ _ [_, _, _], box _ _ [_], box _ _ [_], box _ _ [_]] [_, _, _, _, _, _, _, _, _, _, _, _, _, _] rfl rfl (by simp only [nrmF]; rfl) rfl rfl ?_
    refine JC_true rfl ?_
    refine JC_seq ?_
    refine JC_drawT mixed 6 [spV 36 [] _, spV 37 [0] _, spV 38 [] _, spV 39 [] _, spC 40 [2, 3] _, spV 41 [] _] ⟨OblS_V (fun vals ex ψ => (by
        refine JL_normQ ⟨67, [(36, _), (37, _), (38, _), (39, _), (40, _), (41, _)], _⟩ (_ :: _ :: _ :: _ :: _ :: _ :: _ :: _ :: _ :: _ :: _ :: _ :: _ :: _ :: ψ) rfl rfl ?_
        refine JL_fieldAddr fo36_0 rfl ?_
        exact JL_nil (JE_stepV rfl ss0))), OblS_V (fun vals ex ψ => (by
        refine JL_normQ ⟨67, [(36, _), (37, _), (38, _), (39, _), (40, _), (41, _)], _⟩ (_ :: _ :: _ :: _ :: _ :: _ :: _ :: _ :: _ :: _ :: _ :: _ :: _ :: _ :: ψ) rfl rfl ?_
        refine JL_load 0 ty4 rfl rfl rfl ?_
        exact JL_nil (JE_stepV rfl ss0))), OblS_V (fun vals ex ψ => (by
        refine JL_normQ ⟨67, [(36, _), (37, _), (38, _), (39, _), (40, _), (41, _)], _⟩ (_ :: _ :: _ :: _ :: _ :: _ :: _ :: _ :: _ :: _ :: _ :: _ :: _ :: _ :: ψ) rfl rfl ?_
        refine JL_loadA (vs := [_]) 3 ty34 rfl rfl ⟨rfl, trivial⟩ ?_
        exact JL_nil (JE_stepV rfl ss0))), OblS_V (fun vals ex ψ => (by
        refine JL_normQ ⟨67, [(36, _), (37, _), (38, _), (39, _), (40, _), (41, _)], _⟩ (_ :: _ :: _ :: _ :: _ :: _ :: _ :: _ :: _ :: _ :: _ :: _ :: _ :: _ :: ψ) rfl rfl ?_
        refine JL_loadA (vs := [_]) 4 ty34 rfl rfl ⟨rfl, trivial⟩ ?_
        exact JL_nil (JE_stepV rfl ss0))), OblS_C (fun vals ex ψ => (by
        refine JL_normQ ⟨67, [(36, _), (37, _), (38, _), (39, _), (40, _), (41, _)], _⟩ (_ :: _ :: _ :: _ :: _ :: _ :: _ :: _ :: _ :: _ :: _ :: _ :: _ :: _ :: ψ) rfl rfl ?_
        refine JL_callF' (Asks.cons (holds_of_mem (by repeat (first | with_reducible exact mm0 | refine mmS ?_))) (Asks.cons (holds_of_mem (by repeat (first | with_reducible exact mm0 | refine mmS ?_))) Asks.nil)) (nat_add_con _ _ _ _ _ (NIn.of (by omega)) _ _ _ _ _ (NIn.of (by omega))) rfl ca41 ⟨rfl, rfl, rfl⟩ ?_
        exact fun v φo hP => JL_nil (JE_stepC φo rfl hP (fun p hp => mapB_l hp) (fun p hp => mapB_r (ss0 p hp))))), OblS_V (fun vals ex ψ => (by
        refine JL_normQ ⟨67, [(36, _), (37, _), (38, _), (39, _), (40, _), (41, _)], _⟩ (_ :: _ :: _ :: _ :: _ :: _ :: _ :: _ :: _ :: _ :: _ :: _ :: _ :: _ :: ψ) rfl rfl ?_
        refine JL_loadA (vs := [_]) 5 ty34 rfl rfl ⟨rfl, trivial⟩ ?_
        exact JL_nil (JE_stepV rfl ss0))), trivial⟩ (by kernel_rfl) (fun vals bs => ?_)
    refine JL_normL [_, _] ⟨67, [(36, _), (37, _), (38, _), (39, _), (40, _), (41, _)], _⟩ [box _ _ [_, _, _], box _ _ [_, _, _], box _ _ [_, _, _], box _ _ [_], box _ _ [_], box _ _ [_]] [_, _, _, _, _, _, _, _, _, _, _, _, _, _, _] rfl rfl rfl rfl ?_
    generalize vals (0 + 1 + 1 + 1 + 1) = x40
    refine JL_usePost mm0 (fun φo hP => ?_)
    obtain ⟨ad40, cap40, rfl, hk40, hm40, rfl⟩ := hP
    refine JL_norm _ [box _ _ [_, _, _], box _ _ [_, _, _], box _ _ [_, _, _], box _ _ [_], box _ _ [_], box _ _ [_]] [_, _, _, _, _, _, _, _, _, _, _, _, _, _, _, _] rfl rfl rfl ?_
    refine JL_callF' (Asks.cons (holds_of_mem (by repeat (first | with_reducible exact mm0 | refine mmS ?_))) (Asks.cons (holds_of_mem (by repeat (first | with_reducible exact mm0 | refine mmS ?_))) Asks.nil)) (fmade_con (NIn.of (by omega)) (NIn.of (by omega)) (qadd_same h35)) rfl ca38 ⟨rfl, rfl, rfl, rfl⟩ ?_
    rintro _ _ ⟨ad42, cp42, be42, ce42, rfl, rfl⟩
    refine JL_store (vs := [_, _, _]) 2 ty36 rfl rfl rfl (AllOne.cons rfl (AllOne.cons rfl (AllOne.cons rfl AllOne.nil))) rfl (Nat.le_of_ble_eq_true rfl) ?_
    refine JL_done_up 67 [box _ _ [_, _, _], box _ _ [_, _, _], box _ _ [_, _, _], box _ _ [_], box _ _ [_], box _ _ [_]] [_, _, _, _, _, _, _, _, _, _, _, _, _, _, _, _, _, _] rfl rfl (by simp only [nrmF]; rfl) rfl rfl ?_
    refine JC_ret ?_
    refine JE_then_ret ?_
    refine JE_ret (vs := [_]) [vCells ad42 (u32s (fnum (some (q1 + q2)))), vCells be42 (u32s (fden (some (q1 + q2))))] Tryd.results20 ⟨RV.cell (vs := [_, _, _]) 2 ty36 rfl rfl ⟨rfl, rfl, rfl, trivial⟩, rfl⟩ ?_ ?_
    · exact ⟨ad42, cp42, be42, ce42, rfl, rfl⟩
    · exact (all_cons (by repeat (first | with_reducible exact mm0 | refine mmS ?_)) (all_cons (by repeat (first | with_reducible exact mm0 | refine mmS ?_)) all_nil))
  · refine JL_done_up 67 [box _ _ [_, _, _], box _ _ [_, _, _], box _ _ [_, _, _], box _ _ [_], box _ _ [_], box _ _ [_]] [_, _, _, _, _, _, _, _, _, _, _, _, _, _] rfl rfl (by simp only [nrmF]; rfl) rfl rfl ?_
    refine JC_false rfl ?_
    refine JC_skip ?_
    refine JE_then ?_
    refine JC_seq ?_
    refine JC_seq ?_
    refine JC_region ?_
    refine JL_loadA (vs := [_]) 3 ty34 rfl rfl ⟨rfl, trivial⟩ ?_
    refine JL_loadA (vs := [_]) 4 ty34 rfl rfl ⟨rfl, trivial⟩ ?_
    have hsl := len_limbsOf_le (Nat.sub_le (q1.num.natAbs * q2.den) (q2.num.natAbs * q1.den))
    refine JL_callF' (Asks.cons (holds_of_mem (by repeat (first | with_reducible exact mm0 | refine mmS ?_))) (Asks.cons (holds_of_mem (by repeat (first | with_reducible exact mm0 | refine mmS ?_))) Asks.nil)) (nat_sub_con _ _ _ _ _ (NIn.of (by omega)) _ _ _ _ _ (NIn.of (by omega))) rfl ca42 ⟨rfl, rfl, rfl⟩ ?_
    rintro _ _ ⟨ad46, cap46, rfl, hk46, hm46, rfl⟩
    refine JL_move rfl ?_
    refine JL_extract rfl rfl ?_
    refine JL_extract rfl rfl ?_
    refine JL_alloc z34 (fun b8 => ?_)
    refine JL_store (vs := [_]) 6 ty34 rfl rfl rfl (AllOne.cons rfl AllOne.nil) rfl (Nat.le_of_ble_eq_true rfl) ?_
    refine JL_assign rfl ?_
    refine JL_done_up 67 [box _ _ [_, _, _], box _ _ [_, _, _], box _ _ [_, _, _], box _ _ [_], box _ _ [_], box _ _ [_], box _ _ [_]] [_, _, _, _, _, _, _, _, _, _, _, _, _, _, _] rfl rfl (by simp only [nrmF]; rfl) rfl rfl ?_
    refine JC_seq ?_
    refine JC_region ?_
    refine JL_move rfl ?_
    refine JL_eql rfl rfl ?_
    refine JL_split (fun h50 => ?_) (fun h50 => ?_)
    · have hge : q2.num.natAbs * q1.den ≤ q1.num.natAbs * q2.den := Nat.not_lt.1 (fun h => by rw [if_pos h] at h50; exact absurd h50 (by decide))
      refine JL_done_up 67 [box _ _ [_, _, _], box _ _ [_, _, _], box _ _ [_, _, _], box _ _ [_], box _ _ [_], box _ _ [_], box _ _ [_]] [_, _, _, _, _, _, _, _, _, _, _, _, _, _, _] rfl rfl (by simp only [nrmF]; rfl) rfl rfl ?_
      refine JC_true rfl ?_
      refine JC_seq ?_
      refine JC_region ?_
      refine JL_fieldAddr fo36_0 rfl ?_
      refine JL_load 0 ty4 rfl rfl rfl ?_
      refine JL_loadA (vs := [_]) 6 ty34 rfl rfl ⟨rfl, trivial⟩ ?_
      refine JL_loadA (vs := [_]) 5 ty34 rfl rfl ⟨rfl, trivial⟩ ?_
      refine JL_callF' (Asks.cons (holds_of_mem (by repeat (first | with_reducible exact mm0 | refine mmS ?_))) (Asks.cons (holds_of_mem (by repeat (first | with_reducible exact mm0 | refine mmS ?_))) Asks.nil)) (fmade_con (NIn.of (by omega)) (NIn.of (by omega)) (qadd_ge h35 hge)) rfl ca38 ⟨rfl, rfl, rfl, rfl⟩ ?_
      rintro _ _ ⟨ad55, cp55, be55, ce55, rfl, rfl⟩
      refine JL_store (vs := [_, _, _]) 2 ty36 rfl rfl rfl (AllOne.cons rfl (AllOne.cons rfl (AllOne.cons rfl AllOne.nil))) rfl (Nat.le_of_ble_eq_true rfl) ?_
      refine JL_done_up 67 [box _ _ [_, _, _], box _ _ [_, _, _], box _ _ [_, _, _], box _ _ [_], box _ _ [_], box _ _ [_], box _ _ [_]] [_, _, _, _, _, _, _, _, _, _, _, _, _, _, _, _, _] rfl rfl (by simp only [nrmF]; rfl) rfl rfl ?_
      refine JC_ret ?_
      refine JE_then_ret ?_
      refine JE_ret (vs := [_]) [vCells ad55 (u32s (fnum (some (q1 + q2)))), vCells be55 (u32s (fden (some (q1 + q2))))] Tryd.results20 ⟨RV.cell (vs := [_, _, _]) 2 ty36 rfl rfl ⟨rfl, rfl, rfl, trivial⟩, rfl⟩ ?_ ?_
      · exact ⟨ad55, cp55, be55, ce55, rfl, rfl⟩
      · exact (all_cons (by repeat (first | with_reducible exact mm0 | refine mmS ?_)) (all_cons (by repeat (first | with_reducible exact mm0 | refine mmS ?_)) all_nil))
    · have hlt : q1.num.natAbs * q2.den ≤ q2.num.natAbs * q1.den := by
        rcases Nat.lt_or_ge (q1.num.natAbs * q2.den) (q2.num.natAbs * q1.den) with h | h
        · exact Nat.le_of_lt h
        · exact absurd (if_neg (Nat.not_lt.2 h)) h50
      refine JL_done_up 67 [box _ _ [_, _, _], box _ _ [_, _, _], box _ _ [_, _, _], box _ _ [_], box _ _ [_], box _ _ [_], box _ _ [_]] [_, _, _, _, _, _, _, _, _, _, _, _, _, _, _] rfl rfl (by simp only [nrmF]; rfl) rfl rfl ?_
      refine JC_false rfl ?_
      refine JC_skip ?_
      refine JE_then ?_
      refine JC_seq ?_
      refine JC_region ?_
      refine JL_loadA (vs := [_]) 4 ty34 rfl rfl ⟨rfl, trivial⟩ ?_
      refine JL_loadA (vs := [_]) 3 ty34 rfl rfl ⟨rfl, trivial⟩ ?_
      have hsr := len_limbsOf_le (Nat.sub_le (q2.num.natAbs * q1.den) (q1.num.natAbs * q2.den))
      refine JL_callF' (Asks.cons (holds_of_mem (by repeat (first | with_reducible exact mm0 | refine mmS ?_))) (Asks.cons (holds_of_mem (by repeat (first | with_reducible exact mm0 | refine mmS ?_))) Asks.nil)) (nat_sub_con _ _ _ _ _ (NIn.of (by omega)) _ _ _ _ _ (NIn.of (by omega))) rfl ca42 ⟨rfl, rfl, rfl⟩ ?_
      rintro _ _ ⟨ad59, cap59, rfl, hk59, hm59, rfl⟩
      refine JL_move rfl ?_
      refine JL_extract rfl rfl ?_
      refine JL_extract rfl rfl ?_
      refine JL_alloc z34 (fun b10 => ?_)
      refine JL_store (vs := [_]) 7 ty34 rfl rfl rfl (AllOne.cons rfl AllOne.nil) rfl (Nat.le_of_ble_eq_true rfl) ?_
      refine JL_assign rfl ?_
      refine JL_done_up 67 [box _ _ [_, _, _], box _ _ [_, _, _], box _ _ [_, _, _], box _ _ [_], box _ _ [_], box _ _ [_], box _ _ [_], box _ _ [_]] [_, _, _, _, _, _, _, _, _, _, _, _, _, _, _, _] rfl rfl (by simp only [nrmF]; rfl) rfl rfl ?_
      refine JC_seq ?_
      refine JC_region ?_
      refine JL_fieldAddr fo36_0 rfl ?_
      refine JL_load 1 ty4 rfl rfl rfl ?_
      refine JL_loadA (vs := [_]) 7 ty34 rfl rfl ⟨rfl, trivial⟩ ?_
      refine JL_loadA (vs := [_]) 5 ty34 rfl rfl ⟨rfl, trivial⟩ ?_
      refine JL_callF' (Asks.cons (holds_of_mem (by repeat (first | with_reducible exact mm0 | refine mmS ?_))) (Asks.cons (holds_of_mem (by repeat (first | with_reducible exact mm0 | refine mmS ?_))) Asks.nil)) (fmade_con (NIn.of (by omega)) (NIn.of (by omega)) (qadd_le h35 hlt)) rfl ca38 ⟨rfl, rfl, rfl, rfl⟩ ?_
      rintro _ _ ⟨ad66, cp66, be66, ce66, rfl, rfl⟩
      refine JL_store (vs := [_, _, _]) 2 ty36 rfl rfl rfl (AllOne.cons rfl (AllOne.cons rfl (AllOne.cons rfl AllOne.nil))) rfl (Nat.le_of_ble_eq_true rfl) ?_
      refine JL_done_up 67 [box _ _ [_, _, _], box _ _ [_, _, _], box _ _ [_, _, _], box _ _ [_], box _ _ [_], box _ _ [_], box _ _ [_], box _ _ [_]] [_, _, _, _, _, _, _, _, _, _, _, _, _, _, _, _, _, _] rfl rfl (by simp only [nrmF]; rfl) rfl rfl ?_
      refine JC_ret ?_
      refine JE_ret (vs := [_]) [vCells ad66 (u32s (fnum (some (q1 + q2)))), vCells be66 (u32s (fden (some (q1 + q2))))] Tryd.results20 ⟨RV.cell (vs := [_, _, _]) 2 ty36 rfl rfl ⟨rfl, rfl, rfl, trivial⟩, rfl⟩ ?_ ?_
      · exact ⟨ad66, cp66, be66, ce66, rfl, rfl⟩
      · exact (all_cons (by repeat (first | with_reducible exact mm0 | refine mmS ?_)) (all_cons (by repeat (first | with_reducible exact mm0 | refine mmS ?_)) all_nil))

theorem fcmpq_con {s1 : Bool} {ad1 : Option Addr} {n1 c1 : Nat} {L1 : List Nat} {be1 : Option Addr} {m1 e1 : Nat} {M1 : List Nat} {q1 : Rat} (g1 : FIn s1 n1 L1 m1 M1 q1 1000000) {s2 : Bool} {ad2 : Option Addr} {n2 c2 : Nat} {L2 : List Nat} {be2 : Option Addr} {m2 e2 : Nat} {M2 : List Nat} {q2 : Rat} (g2 : FIn s2 n2 L2 m2 M2 q2 1000000) :
    ConF Tryd.prog 14 [.agg #[.bool s1, .slice ad1 n1 c1, .slice be1 m1 e1], .agg #[.bool s2, .slice ad2 n2 c2, .slice be2 m2 e2]] [vCells ad1 (u32s L1), vCells be1 (u32s M1), vCells ad2 (u32s L2), vCells be2 (u32s M2)]
      (fun v φo => v = .int .i64 (cmpQ q1 q2) ∧ φo = []) := by
  have hs1n := g1.num.sz
  have hl1n := g1.num.le
  have hs1d := g1.den.sz
  have hl1d := g1.den.le
  have hs2n := g2.num.sz
  have hl2n := g2.num.le
  have hs2d := g2.den.sz
  have hl2d := g2.den.le
  have hmA := len_limbsOf_mul (val L1) (val M2)
  have hmB := len_limbsOf_mul (val L2) (val M1)
  refine ConF_of Tryd.func14 rfl 35 _ rfl rfl ?_
  intro w0
  refine JC_norm ⟨35, [], [_, _, _, _, _, _, _, _, _, _, _, _, _, _, _, _, _, _, _, _, _, _, _, _, _, _, _, _, _, _, _, _, _, _, _]⟩ [] [_, _, _, _] rfl rfl rfl ?_
  refine JC_seq ?_
  refine JC_region ?_
  refine JL_box rfl rfl (fun b2 => ?_)
  refine JL_box rfl rfl (fun b3 => ?_)
  refine JL_assign rfl ?_
  refine JL_done_up 35 [box _ _ [_, _, _], box _ _ [_, _, _]] [_, _, _, _] rfl rfl (by simp only [nrmF]; rfl) rfl rfl ?_
  refine JC_seq ?_
  refine JC_drawT mixed 3 [spV 7 [] _, spC 8 [0] _, spV 9 [] _] ⟨OblS_V (fun vals ex ψ => (by
      refine JL_normQ ⟨35, [(7, _), (8, _), (9, _)], _⟩ (_ :: _ :: _ :: _ :: ψ) rfl rfl ?_
      refine JL_loadA (vs := [_, _, _]) 0 ty36 rfl rfl ⟨rfl, rfl, rfl, trivial⟩ ?_
      exact JL_nil (JE_stepV rfl ss0))), OblS_C (fun vals ex ψ => (by
      refine JL_normQ ⟨35, [(7, _), (8, _), (9, _)], _⟩ (_ :: _ :: _ :: _ :: ψ) rfl rfl ?_
      refine JL_callF' (Asks.cons (holds_of_mem (by repeat (first | with_reducible exact mm0 | refine mmS ?_))) (Asks.cons (holds_of_mem (by repeat (first | with_reducible exact mm0 | refine mmS ?_))) Asks.nil)) (fsign_con (g1.mono (by omega))) rfl ca35 ⟨rfl, rfl⟩ ?_
      exact fun v φo hP => JL_nil (JE_stepC φo rfl hP (fun p hp => mapB_l hp) (fun p hp => mapB_r (ss0 p hp))))), OblS_V (fun vals ex ψ => (by
      refine JL_normQ ⟨35, [(7, _), (8, _), (9, _)], _⟩ (_ :: _ :: _ :: _ :: ψ) rfl rfl ?_
      refine JL_loadA (vs := [_, _, _]) 1 ty36 rfl rfl ⟨rfl, rfl, rfl, trivial⟩ ?_
      exact JL_nil (JE_stepV rfl ss0))), trivial⟩ (by kernel_rfl) (fun vals bs => ?_)
  refine JL_normL [_, _, _] ⟨35, [(7, _), (8, _), (9, _)], _⟩ [box _ _ [_, _, _], box _ _ [_, _, _]] [_, _, _, _, _] rfl rfl rfl rfl ?_
  generalize vals (0 + 1) = x8
  refine JL_usePost mm0 (fun φo hP => ?_)
  obtain ⟨rfl, rfl⟩ := hP
  refine JL_norm _ [box _ _ [_, _, _], box _ _ [_, _, _]] [_, _, _, _, _] rfl rfl rfl ?_
  refine JL_callF' (Asks.cons (holds_of_mem (by repeat (first | with_reducible exact mm0 | refine mmS ?_))) (Asks.cons (holds_of_mem (by repeat (first | with_reducible exact mm0 | refine mmS ?_))) Asks.nil)) (fsign_con (g2.mono (by omega))) rfl ca35 ⟨rfl, rfl⟩ ?_
  rintro _ _ ⟨rfl, rfl⟩
  refine JL_assign rfl ?_
  refine JL_assign rfl ?_
  refine JL_done_up 35 [box _ _ [_, _, _], box _ _ [_, _, _]] [_, _, _, _, _] rfl rfl (by simp only [nrmF]; rfl) rfl rfl ?_
  refine JC_seq ?_
  refine JC_block ?_
  refine JC_seq ?_
  refine JC_region ?_
  refine JL_move rfl ?_
  refine JL_move rfl ?_
  refine JL_lss rfl rfl ?_
  refine JL_split (fun h14 => ?_) (fun h14 => ?_)
  · refine JL_assign rfl ?_
    refine JL_done_up 35 [box _ _ [_, _, _], box _ _ [_, _, _]] [_, _, _, _, _] rfl rfl (by simp only [nrmF]; rfl) rfl rfl ?_
    refine JC_true rfl ?_
    refine JC_seq ?_
    refine JC_region ?_
    refine JL_assign rfl ?_
    refine JL_done_up 35 [box _ _ [_, _, _], box _ _ [_, _, _]] [_, _, _, _, _] rfl rfl (by simp only [nrmF]; rfl) rfl rfl ?_
    refine JC_ret ?_
    refine JE_block_ret ?_
    refine JE_then_ret ?_
    refine JE_ret (vs := [_]) [] Tryd.results14 ⟨rfl, rfl⟩ ?_ ?_
    · exact ⟨by rw [sgn_lt h14]; rfl, rfl⟩
    · exact all_nil
  · refine JL_assign rfl ?_
    refine JL_done_up 35 [box _ _ [_, _, _], box _ _ [_, _, _]] [_, _, _, _, _] rfl rfl (by simp only [nrmF]; rfl) rfl rfl ?_
    refine JC_false rfl ?_
    refine JC_seq ?_
    refine JC_region ?_
    refine JL_move rfl ?_
    refine JL_move rfl ?_
    refine JL_gtr rfl rfl ?_
    refine JL_split (fun h18 => ?_) (fun h18 => ?_)
    · refine JL_assign rfl ?_
      refine JL_done_up 35 [box _ _ [_, _, _], box _ _ [_, _, _]] [_, _, _, _, _] rfl rfl (by simp only [nrmF]; rfl) rfl rfl ?_
      refine JC_true rfl ?_
      refine JC_seq ?_
      refine JC_region ?_
      refine JL_assign rfl ?_
      refine JL_done_up 35 [box _ _ [_, _, _], box _ _ [_, _, _]] [_, _, _, _, _] rfl rfl (by simp only [nrmF]; rfl) rfl rfl ?_
      refine JC_ret ?_
      refine JE_block_ret ?_
      refine JE_then_ret ?_
      refine JE_ret (vs := [_]) [] Tryd.results14 ⟨rfl, rfl⟩ ?_ ?_
      · exact ⟨by rw [sgn_gt h18]; rfl, rfl⟩
      · exact all_nil
    · refine JL_assign rfl ?_
      refine JL_done_up 35 [box _ _ [_, _, _], box _ _ [_, _, _]] [_, _, _, _, _] rfl rfl (by simp only [nrmF]; rfl) rfl rfl ?_
      refine JC_false rfl ?_
      refine JC_seq ?_
      refine JC_region ?_
      refine JL_move rfl ?_
      refine JL_eql rfl rfl ?_
      refine JL_split (fun h21 => ?_) (fun h21 => ?_)
      · refine JL_assign rfl ?_
        refine JL_done_up 35 [box _ _ [_, _, _], box _ _ [_, _, _]] [_, _, _, _, _] rfl rfl (by simp only [nrmF]; rfl) rfl rfl ?_
        refine JC_true rfl ?_
        refine JC_seq ?_
        refine JC_region ?_
        refine JL_assign rfl ?_
        refine JL_done_up 35 [box _ _ [_, _, _], box _ _ [_, _, _]] [_, _, _, _, _] rfl rfl (by simp only [nrmF]; rfl) rfl rfl ?_
        refine JC_ret ?_
        refine JE_block_ret ?_
        refine JE_then_ret ?_
        refine JE_ret (vs := [_]) [] Tryd.results14 ⟨rfl, rfl⟩ ?_ ?_
        · exact ⟨by rw [sgn_zero h21 (by omega)]; rfl, rfl⟩
        · exact all_nil
      · refine JL_assign rfl ?_
        refine JL_done_up 35 [box _ _ [_, _, _], box _ _ [_, _, _]] [_, _, _, _, _] rfl rfl (by simp only [nrmF]; rfl) rfl rfl ?_
        refine JC_false rfl ?_
        refine JC_skip ?_
        refine JE_block_normal ?_
        refine JE_then ?_
        refine JC_seq ?_
        refine JC_drawT mixed 12 [spV 22 [] _, spV 23 [] _, spV 24 [1] _, spV 25 [] _, spV 26 [3] _, spC 27 [2, 4] _, spV 28 [] _, spV 29 [6] _, spV 30 [] _, spV 31 [8] _, spC 32 [7, 9] _, spC 33 [5, 10] _] ⟨OblS_V (fun vals ex ψ => (by
            refine JL_normQ ⟨35, [(22, _), (23, _), (24, _), (25, _), (26, _), (27, _), (28, _), (29, _), (30, _), (31, _), (32, _), (33, _)], _⟩ (_ :: _ :: _ :: _ :: _ :: ψ) rfl rfl ?_
            refine JL_move rfl ?_
            exact JL_nil (JE_stepV rfl ss0))), OblS_V (fun vals ex ψ => (by
            refine JL_normQ ⟨35, [(22, _), (23, _), (24, _), (25, _), (26, _), (27, _), (28, _), (29, _), (30, _), (31, _), (32, _), (33, _)], _⟩ (_ :: _ :: _ :: _ :: _ :: ψ) rfl rfl ?_
            refine JL_fieldAddr fo36_1 rfl ?_
            exact JL_nil (JE_stepV rfl ss0))), OblS_V (fun vals ex ψ => (by
            refine JL_normQ ⟨35, [(22, _), (23, _), (24, _), (25, _), (26, _), (27, _), (28, _), (29, _), (30, _), (31, _), (32, _), (33, _)], _⟩ (_ :: _ :: _ :: _ :: _ :: ψ) rfl rfl ?_
            refine JL_loadA (vs := [_]) 0 ty34 rfl rfl ⟨rfl, trivial⟩ ?_
            exact JL_nil (JE_stepV rfl ss0))), OblS_V (fun vals ex ψ => (by
            refine JL_normQ ⟨35, [(22, _), (23, _), (24, _), (25, _), (26, _), (27, _), (28, _), (29, _), (30, _), (31, _), (32, _), (33, _)], _⟩ (_ :: _ :: _ :: _ :: _ :: ψ) rfl rfl ?_
            refine JL_fieldAddr fo36_2 rfl ?_
            exact JL_nil (JE_stepV rfl ss0))), OblS_V (fun vals ex ψ => (by
            refine JL_normQ ⟨35, [(22, _), (23, _), (24, _), (25, _), (26, _), (27, _), (28, _), (29, _), (30, _), (31, _), (32, _), (33, _)], _⟩ (_ :: _ :: _ :: _ :: _ :: ψ) rfl rfl ?_
            refine JL_loadA (vs := [_]) 1 ty34 rfl rfl ⟨rfl, trivial⟩ ?_
            exact JL_nil (JE_stepV rfl ss0))), OblS_C (fun vals ex ψ => (by
            refine JL_normQ ⟨35, [(22, _), (23, _), (24, _), (25, _), (26, _), (27, _), (28, _), (29, _), (30, _), (31, _), (32, _), (33, _)], _⟩ (_ :: _ :: _ :: _ :: _ :: ψ) rfl rfl ?_
            refine JL_callF' (Asks.cons (holds_of_mem (by repeat (first | with_reducible exact mm0 | refine mmS ?_))) (Asks.cons (holds_of_mem (by repeat (first | with_reducible exact mm0 | refine mmS ?_))) Asks.nil)) (nat_mul_con _ _ _ _ _ (g1.num.mono (by omega)) _ _ _ _ _ (g2.den.mono (by omega))) rfl ca37 ⟨rfl, rfl, rfl⟩ ?_
            exact fun v φo hP => JL_nil (JE_stepC φo rfl hP (fun p hp => mapB_l hp) (fun p hp => mapB_r (ss0 p hp))))), OblS_V (fun vals ex ψ => (by
            refine JL_normQ ⟨35, [(22, _), (23, _), (24, _), (25, _), (26, _), (27, _), (28, _), (29, _), (30, _), (31, _), (32, _), (33, _)], _⟩ (_ :: _ :: _ :: _ :: _ :: ψ) rfl rfl ?_
            refine JL_fieldAddr fo36_1 rfl ?_
            exact JL_nil (JE_stepV rfl ss0))), OblS_V (fun vals ex ψ => (by
            refine JL_normQ ⟨35, [(22, _), (23, _), (24, _), (25, _), (26, _), (27, _), (28, _), (29, _), (30, _), (31, _), (32, _), (33, _)], _⟩ (_ :: _ :: _ :: _ :: _ :: ψ) rfl rfl ?_
            refine JL_loadA (vs := [_]) 1 ty34 rfl rfl ⟨rfl, trivial⟩ ?_
            exact JL_nil (JE_stepV rfl ss0))), OblS_V (fun vals ex ψ => (by
            refine JL_normQ ⟨35, [(22, _), (23, _), (24, _), (25, _), (26, _), (27, _), (28, _), (29, _), (30, _), (31, _), (32, _), (33, _)], _⟩ (_ :: _ :: _ :: _ :: _ :: ψ) rfl rfl ?_
            refine JL_fieldAddr fo36_2 rfl ?_
            exact JL_nil (JE_stepV rfl ss0))), OblS_V (fun vals ex ψ => (by
            refine JL_normQ ⟨35, [(22, _), (23, _), (24, _), (25, _), (26, _), (27, _), (28, _), (29, _), (30, _), (31, _), (32, _), (33, _)], _⟩ (_ :: _ :: _ :: _ :: _ :: ψ) rfl rfl ?_
            refine JL_loadA (vs := [_]) 0 ty34 rfl rfl ⟨rfl, trivial⟩ ?_
            exact JL_nil (JE_stepV rfl ss0))), OblS_C (fun vals ex ψ => (by
            refine JL_normQ ⟨35, [(22, _), (23, _), (24, _), (25, _), (26, _), (27, _), (28, _), (29, _), (30, _), (31, _), (32, _), (33, _)], _⟩ (_ :: _ :: _ :: _ :: _ :: ψ) rfl rfl ?_
            refine JL_callF' (Asks.cons (holds_of_mem (by repeat (first | with_reducible exact mm0 | refine mmS ?_))) (Asks.cons (holds_of_mem (by repeat (first | with_reducible exact mm0 | refine mmS ?_))) Asks.nil)) (nat_mul_con _ _ _ _ _ (g2.num.mono (by omega)) _ _ _ _ _ (g1.den.mono (by omega))) rfl ca37 ⟨rfl, rfl, rfl⟩ ?_
            exact fun v φo hP => JL_nil (JE_stepC φo rfl hP (fun p hp => mapB_l hp) (fun p hp => mapB_r (ss0 p hp))))), OblS_C (fun vals ex ψ => (by
            refine JL_normQ ⟨35, [(22, _), (23, _), (24, _), (25, _), (26, _), (27, _), (28, _), (29, _), (30, _), (31, _), (32, _), (33, _)], _⟩ (_ :: _ :: _ :: _ :: _ :: _ :: _ :: ψ) rfl rfl ?_
            generalize vals 5 = x27
            refine JL_usePost mm0 (fun φo hP => ?_)
            obtain ⟨ad27, cap27, rfl, hk27, hm27, rfl⟩ := hP
            refine JL_norm _ _ (_ :: _ :: _ :: _ :: _ :: _ :: _ :: _ :: ψ) rfl rfl rfl ?_
            generalize vals 10 = x32
            refine JL_usePost (mmS (mmS mm0)) (fun φo hP => ?_)
            obtain ⟨ad32, cap32, rfl, hk32, hm32, rfl⟩ := hP
            refine JL_norm _ _ (_ :: _ :: _ :: _ :: _ :: _ :: _ :: _ :: _ :: ψ) rfl rfl rfl ?_
            refine JL_callF' (Asks.cons (holds_of_mem (by repeat (first | with_reducible exact mm0 | refine mmS ?_))) (Asks.cons (holds_of_mem (by repeat (first | with_reducible exact mm0 | refine mmS ?_))) Asks.nil)) (nat_cmp_con _ _ _ _ _ (NIn.of (by omega)) _ _ _ _ _ (NIn.of (by omega))) rfl ca36 ⟨rfl, rfl, rfl⟩ ?_
            exact fun v φo hP => JL_nil (JE_stepC φo rfl hP (fun p hp => mapB_l hp) (fun p hp => mapB_r ((ssS (ssS ss0)) p hp))))), trivial⟩ (by kernel_rfl) (fun vals bs => ?_)
        refine JL_normL [_, _] ⟨35, [(22, _), (23, _), (24, _), (25, _), (26, _), (27, _), (28, _), (29, _), (30, _), (31, _), (32, _), (33, _)], _⟩ [box _ _ [_, _, _], box _ _ [_, _, _]] [_, _, _, _, _, _, _, _] rfl rfl rfl rfl ?_
        generalize vals (0 + 1 + 1 + 1 + 1 + 1) = x27
        generalize vals (0 + 1 + 1 + 1 + 1 + 1 + 1 + 1 + 1 + 1 + 1) = x32
        generalize vals (0 + 1 + 1 + 1 + 1 + 1 + 1 + 1 + 1 + 1 + 1 + 1) = x33
        refine JL_usePost (mmS (mmS mm0)) (fun φo hP => ?_)
        obtain ⟨rfl, rfl⟩ := hP
        refine JL_norm _ [box _ _ [_, _, _], box _ _ [_, _, _]] [_, _, _, _, _, _, _, _] rfl rfl rfl ?_
        have hcq : sgnQ q1 * cmpN (val L1 * val M2) (val L2 * val M1) = cmpQ q1 q2 := by
          have h1 : sgnQ q1 = sgnQ q2 := by omega
          have h2 : sgnQ q1 ≠ 0 := h21
          rw [← g1.eq, ← g2.eq] at h1
          rw [← g1.eq] at h2
          rw [← g1.eq, ← g2.eq]
          exact cmpQ_of h1 h2
        have hrg := cmpQ_rng q1 q2
        refine JL_mul_to rfl rfl (i64_of hcq (by omega) (by omega)) ?_
        refine JL_assign rfl ?_
        refine JL_done_up 35 [box _ _ [_, _, _], box _ _ [_, _, _]] [_, _, _, _, _, _, _, _] rfl rfl (by simp only [nrmF]; rfl) rfl rfl ?_
        refine JC_ret ?_
        refine JE_ret (vs := [_]) [] Tryd.results14 ⟨rfl, rfl⟩ ?_ ?_
        · exact ⟨rfl, rfl⟩
        · exact all_nil

end Go.Fw.K
