/- Walks through functions of the given program: each meets its contract. (Printed by a program of this repo.) -/
import Derived.Test.YtmbgbodkhdfdoaaDoorG2
import Derived.Test.YtmbgbodkhdfdoaaDoorProg
namespace Go.Fw.G3
open Go Go.RowKit Go.Proofs Go.Nat9 Go.Fw
attribute [local irreducible] JC JL JE
theorem ca55 : callable Tryd.prog 55 = true := by kernel_rfl
theorem ca68 : callable Tryd.prog 68 = true := by kernel_rfl
theorem ca69 : callable Tryd.prog 69 = true := by kernel_rfl
theorem ca70 : callable Tryd.prog 70 = true := by kernel_rfl
theorem ca71 : callable Tryd.prog 71 = true := by kernel_rfl
theorem ca72 : callable Tryd.prog 72 = true := by kernel_rfl
theorem fo26_0 : fOf Tryd.prog 26 0 = some 0 := by kernel_rfl
theorem fo26_1 : fOf Tryd.prog 26 1 = some 1 := by kernel_rfl
theorem fo26_2 : fOf Tryd.prog 26 2 = some 2 := by kernel_rfl
theorem mixed : Tryd.prog.follows .mixedOrders = true := by kernel_rfl
theorem ty24 : tyOf Tryd.prog 24 = some (true, 1) := by kernel_rfl
theorem ty26 : tyOf Tryd.prog 26 = some (true, 3) := by kernel_rfl
theorem ty4 : tyOf Tryd.prog 4 = some (false, 1) := by kernel_rfl
theorem ub4 : Tryd.prog.underlying 4 = some .bool := by kernel_rfl
theorem z24 : zeroOf Tryd.prog 24 = some [.slice none 0 0] := by kernel_rfl
theorem z26 : zeroOf Tryd.prog 26 = some [.bool false, .slice none 0 0, .slice none 0 0] := by kernel_rfl
end Go.Fw.G3
namespace Go.Fw.K
open Go Go.RowKit Go.Proofs Go.Nat9 Go.Fw Go.Fw.G3
attribute [local irreducible] JC JL JE

theorem raddq_con {s1 : Bool} {ad1 : Option Addr} {n1 c1 : Nat} {L1 : List Nat} {be1 : Option Addr} {m1 e1 : Nat} {M1 : List Nat} {q1 : Rat} (g1 : FIn s1 n1 L1 m1 M1 q1 5000000) {s2 : Bool} {ad2 : Option Addr} {n2 c2 : Nat} {L2 : List Nat} {be2 : Option Addr} {m2 e2 : Nat} {M2 : List Nat} {q2 : Rat} (g2 : FIn s2 n2 L2 m2 M2 q2 5000000) :
    ConF Tryd.prog 41 [.agg #[.bool s1, .slice ad1 n1 c1, .slice be1 m1 e1], .agg #[.bool s2, .slice ad2 n2 c2, .slice be2 m2 e2]] [vCells ad1 (u32s L1), vCells be1 (u32s M1), vCells ad2 (u32s L2), vCells be2 (u32s M2)]
      (FO (some (q1 + q2))) := by
  have hq1 := g1.qs.mono (b := 5000001) (by decide)
  have hq2 := g2.qs.mono (b := 5000001) (by decide)
  have hb1n := hq1.1
  have hb1d := hq1.2
  have hb2n := hq2.1
  have hb2d := hq2.2
  have hmA := len_limbsOf_mul q1.num.natAbs q2.den
  have hmB := len_limbsOf_mul q2.num.natAbs q1.den
  have hmC := len_limbsOf_mul q1.den q2.den
  have hmD := len_limbsOf_add (q1.num.natAbs * q2.den) (q2.num.natAbs * q1.den)
  refine ConF_of Tryd.func41 rfl 69 _ rfl rfl ?_
  intro w0
  refine JC_norm ⟨69, [], [_, _, _, _, _, _, _, _, _, _, _, _, _, _, _, _, _, _, _, _, _, _, _, _, _, _, _, _, _, _, _, _, _, _, _, _, _, _, _, _, _, _, _, _, _, _, _, _, _, _, _, _, _, _, _, _, _, _, _, _, _, _, _, _, _, _, _, _, _]⟩ [] [_, _, _, _] rfl rfl rfl ?_
  refine JC_seq ?_
  refine JC_region ?_
  refine JL_box rfl rfl (fun b2 => ?_)
  refine JL_box rfl rfl (fun b3 => ?_)
  refine JL_alloc z26 (fun b4 => ?_)
  refine JL_done_up 69 [box _ _ [_, _, _], box _ _ [_, _, _], box _ _ [_, _, _]] [_, _, _, _] rfl rfl (by simp only [nrmF]; rfl) rfl rfl ?_
  refine JC_seq ?_
  refine JC_drawT mixed 3 [spV 12 [] _, spC 13 [0] _, spV 14 [] _] ⟨OblS_V (fun vals ex ψ => (by
      refine JL_normQ ⟨69, [(12, _), (13, _), (14, _)], _⟩ (_ :: _ :: _ :: _ :: ψ) rfl rfl ?_
      refine JL_loadA (vs := [_, _, _]) 0 ty26 rfl rfl ⟨rfl, rfl, rfl, trivial⟩ ?_
      exact JL_nil (JE_stepV rfl ss0))), OblS_C (fun vals ex ψ => (by
      refine JL_normQ ⟨69, [(12, _), (13, _), (14, _)], _⟩ (_ :: _ :: _ :: _ :: ψ) rfl rfl ?_
      refine JL_callF' (Asks.cons (holds_of_mem (by repeat (first | with_reducible exact mm0 | refine mmS ?_))) (Asks.cons (holds_of_mem (by repeat (first | with_reducible exact mm0 | refine mmS ?_))) Asks.nil)) (rnormq_con (g1.mono (by omega))) rfl ca55 ⟨rfl, rfl⟩ ?_
      exact fun v φo hP => JL_nil (JE_stepC φo rfl hP (fun p hp => mapB_l hp) (fun p hp => mapB_r (ss0 p hp))))), OblS_V (fun vals ex ψ => (by
      refine JL_normQ ⟨69, [(12, _), (13, _), (14, _)], _⟩ (_ :: _ :: _ :: _ :: ψ) rfl rfl ?_
      refine JL_loadA (vs := [_, _, _]) 1 ty26 rfl rfl ⟨rfl, rfl, rfl, trivial⟩ ?_
      exact JL_nil (JE_stepV rfl ss0))), trivial⟩ (by kernel_rfl) (fun vals bs => ?_)
  refine JL_normL [_, _, _] ⟨69, [(12, _), (13, _), (14, _)], _⟩ [box _ _ [_, _, _], box _ _ [_, _, _], box _ _ [_, _, _]] [_, _, _, _, _] rfl rfl rfl rfl ?_
  generalize vals (0 + 1) = x13
  refine JL_usePost mm0 (fun φo hP => ?_)
  obtain ⟨ad13, cp13, be13, ce13, rfl, rfl⟩ := hP
  refine JL_norm _ [box _ _ [_, _, _], box _ _ [_, _, _], box _ _ [_, _, _]] [_, _, _, _, _, _, _] rfl rfl rfl ?_
  refine JL_callF' (Asks.cons (holds_of_mem (by repeat (first | with_reducible exact mm0 | refine mmS ?_))) (Asks.cons (holds_of_mem (by repeat (first | with_reducible exact mm0 | refine mmS ?_))) Asks.nil)) (rnormq_con (g2.mono (by omega))) rfl ca55 ⟨rfl, rfl⟩ ?_
  rintro _ _ ⟨ad15, cp15, be15, ce15, rfl, rfl⟩
  refine JL_store (vs := [_, _, _]) 0 ty26 rfl rfl rfl (AllOne.cons rfl (AllOne.cons rfl (AllOne.cons rfl AllOne.nil))) rfl (Nat.le_of_ble_eq_true rfl) ?_
  refine JL_store (vs := [_, _, _]) 1 ty26 rfl rfl rfl (AllOne.cons rfl (AllOne.cons rfl (AllOne.cons rfl AllOne.nil))) rfl (Nat.le_of_ble_eq_true rfl) ?_
  refine JL_done_up 69 [box _ _ [_, _, _], box _ _ [_, _, _], box _ _ [_, _, _]] [_, _, _, _, _, _, _, _, _] rfl rfl (by simp only [nrmF]; rfl) rfl rfl ?_
  refine JC_seq ?_
  refine JC_region ?_
  refine JL_fieldAddr fo26_1 rfl ?_
  refine JL_loadA (vs := [_]) 0 ty24 rfl rfl ⟨rfl, trivial⟩ ?_
  refine JL_fieldAddr fo26_2 rfl ?_
  refine JL_loadA (vs := [_]) 1 ty24 rfl rfl ⟨rfl, trivial⟩ ?_
  refine JL_callF' (Asks.cons (holds_of_mem (by repeat (first | with_reducible exact mm0 | refine mmS ?_))) (Asks.cons (holds_of_mem (by repeat (first | with_reducible exact mm0 | refine mmS ?_))) Asks.nil)) (rmul_con _ _ _ _ _ ((NIn.num hq1).mono (by omega)) _ _ _ _ _ ((NIn.den hq2).mono (by omega)) _ rfl) rfl ca68 ⟨rfl, rfl, rfl⟩ ?_
  rintro _ _ ⟨ad20, cap20, rfl, hk20, hm20, rfl⟩
  refine JL_alloc z24 (fun b5 => ?_)
  refine JL_store (vs := [_]) 3 ty24 rfl rfl rfl (AllOne.cons rfl AllOne.nil) rfl (Nat.le_of_ble_eq_true rfl) ?_
  refine JL_done_up 69 [box _ _ [_, _, _], box _ _ [_, _, _], box _ _ [_, _, _], box _ _ [_]] [_, _, _, _, _, _, _, _, _, _] rfl rfl (by simp only [nrmF]; rfl) rfl rfl ?_
  refine JC_seq ?_
  refine JC_region ?_
  refine JL_fieldAddr fo26_1 rfl ?_
  refine JL_loadA (vs := [_]) 1 ty24 rfl rfl ⟨rfl, trivial⟩ ?_
  refine JL_fieldAddr fo26_2 rfl ?_
  refine JL_loadA (vs := [_]) 0 ty24 rfl rfl ⟨rfl, trivial⟩ ?_
  refine JL_callF' (Asks.cons (holds_of_mem (by repeat (first | with_reducible exact mm0 | refine mmS ?_))) (Asks.cons (holds_of_mem (by repeat (first | with_reducible exact mm0 | refine mmS ?_))) Asks.nil)) (rmul_con _ _ _ _ _ ((NIn.num hq2).mono (by omega)) _ _ _ _ _ ((NIn.den hq1).mono (by omega)) _ rfl) rfl ca68 ⟨rfl, rfl, rfl⟩ ?_
  rintro _ _ ⟨ad25, cap25, rfl, hk25, hm25, rfl⟩
  refine JL_alloc z24 (fun b6 => ?_)
  refine JL_store (vs := [_]) 4 ty24 rfl rfl rfl (AllOne.cons rfl AllOne.nil) rfl (Nat.le_of_ble_eq_true rfl) ?_
  refine JL_done_up 69 [box _ _ [_, _, _], box _ _ [_, _, _], box _ _ [_, _, _], box _ _ [_], box _ _ [_]] [_, _, _, _, _, _, _, _, _, _, _] rfl rfl (by simp only [nrmF]; rfl) rfl rfl ?_
  refine JC_seq ?_
  refine JC_region ?_
  refine JL_fieldAddr fo26_2 rfl ?_
  refine JL_loadA (vs := [_]) 0 ty24 rfl rfl ⟨rfl, trivial⟩ ?_
  refine JL_fieldAddr fo26_2 rfl ?_
  refine JL_loadA (vs := [_]) 1 ty24 rfl rfl ⟨rfl, trivial⟩ ?_
  refine JL_callF' (Asks.cons (holds_of_mem (by repeat (first | with_reducible exact mm0 | refine mmS ?_))) (Asks.cons (holds_of_mem (by repeat (first | with_reducible exact mm0 | refine mmS ?_))) Asks.nil)) (rmul_con _ _ _ _ _ ((NIn.den hq1).mono (by omega)) _ _ _ _ _ ((NIn.den hq2).mono (by omega)) _ rfl) rfl ca68 ⟨rfl, rfl, rfl⟩ ?_
  rintro _ _ ⟨ad30, cap30, rfl, hk30, hm30, rfl⟩
  refine JL_alloc z24 (fun b7 => ?_)
  refine JL_store (vs := [_]) 5 ty24 rfl rfl rfl (AllOne.cons rfl AllOne.nil) rfl (Nat.le_of_ble_eq_true rfl) ?_
  refine JL_done_up 69 [box _ _ [_, _, _], box _ _ [_, _, _], box _ _ [_, _, _], box _ _ [_], box _ _ [_], box _ _ [_]] [_, _, _, _, _, _, _, _, _, _, _, _] rfl rfl (by simp only [nrmF]; rfl) rfl rfl ?_
  refine JC_seq ?_
  refine JC_seq ?_
  refine JC_region ?_
  refine JL_fieldAddr fo26_0 rfl ?_
  refine JL_load 0 ty4 rfl rfl rfl ?_
  refine JL_fieldAddr fo26_0 rfl ?_
  refine JL_load 1 ty4 rfl rfl rfl ?_
  refine JL_eqlB ub4 rfl rfl ?_
  refine JL_splitEqB (fun h35 => ?_) (fun h35 => ?_)
  · refine JL_done_up 69 [box _ _ [_, _, _], box _ _ [_, _, _], box _ _ [_, _, _], box _ _ [_], box _ _ [_], box _ _ [_]] [_, _, _, _, _, _, _, _, _, _, _, _] rfl rfl (by simp only [nrmF]; rfl) rfl rfl ?_
    refine JC_true rfl ?_
    refine JC_seq ?_
    refine JC_drawT mixed 6 [spV 36 [] _, spV 37 [0] _, spV 38 [] _, spV 39 [] _, spC 40 [2, 3] _, spV 41 [] _] ⟨OblS_V (fun vals ex ψ => (by
        refine JL_normQ ⟨69, [(36, _), (37, _), (38, _), (39, _), (40, _), (41, _)], _⟩ (_ :: _ :: _ :: _ :: _ :: _ :: _ :: _ :: _ :: _ :: _ :: _ :: ψ) rfl rfl ?_
        refine JL_fieldAddr fo26_0 rfl ?_
        exact JL_nil (JE_stepV rfl ss0))), OblS_V (fun vals ex ψ => (by
        refine JL_normQ ⟨69, [(36, _), (37, _), (38, _), (39, _), (40, _), (41, _)], _⟩ (_ :: _ :: _ :: _ :: _ :: _ :: _ :: _ :: _ :: _ :: _ :: _ :: ψ) rfl rfl ?_
        refine JL_load 0 ty4 rfl rfl rfl ?_
        exact JL_nil (JE_stepV rfl ss0))), OblS_V (fun vals ex ψ => (by
        refine JL_normQ ⟨69, [(36, _), (37, _), (38, _), (39, _), (40, _), (41, _)], _⟩ (_ :: _ :: _ :: _ :: _ :: _ :: _ :: _ :: _ :: _ :: _ :: _ :: ψ) rfl rfl ?_
        refine JL_loadA (vs := [_]) 3 ty24 rfl rfl ⟨rfl, trivial⟩ ?_
        exact JL_nil (JE_stepV rfl ss0))), OblS_V (fun vals ex ψ => (by
        refine JL_normQ ⟨69, [(36, _), (37, _), (38, _), (39, _), (40, _), (41, _)], _⟩ (_ :: _ :: _ :: _ :: _ :: _ :: _ :: _ :: _ :: _ :: _ :: _ :: ψ) rfl rfl ?_
        refine JL_loadA (vs := [_]) 4 ty24 rfl rfl ⟨rfl, trivial⟩ ?_
        exact JL_nil (JE_stepV rfl ss0))), OblS_C (fun vals ex ψ => (by
        refine JL_normQ ⟨69, [(36, _), (37, _), (38, _), (39, _), (40, _), (41, _)], _⟩ (_ :: _ :: _ :: _ :: _ :: _ :: _ :: _ :: _ :: _ :: _ :: _ :: ψ) rfl rfl ?_
        refine JL_callF' (Asks.cons (holds_of_mem (by repeat (first | with_reducible exact mm0 | refine mmS ?_))) (Asks.cons (holds_of_mem (by repeat (first | with_reducible exact mm0 | refine mmS ?_))) Asks.nil)) (radd_con _ _ _ _ _ (NIn.of (by omega)) _ _ _ _ _ (NIn.of (by omega)) _ rfl) rfl ca70 ⟨rfl, rfl, rfl⟩ ?_
        exact fun v φo hP => JL_nil (JE_stepC φo rfl hP (fun p hp => mapB_l hp) (fun p hp => mapB_r (ss0 p hp))))), OblS_V (fun vals ex ψ => (by
        refine JL_normQ ⟨69, [(36, _), (37, _), (38, _), (39, _), (40, _), (41, _)], _⟩ (_ :: _ :: _ :: _ :: _ :: _ :: _ :: _ :: _ :: _ :: _ :: _ :: ψ) rfl rfl ?_
        refine JL_loadA (vs := [_]) 5 ty24 rfl rfl ⟨rfl, trivial⟩ ?_
        exact JL_nil (JE_stepV rfl ss0))), trivial⟩ (by kernel_rfl) (fun vals bs => ?_)
    refine JL_normL [_, _] ⟨69, [(36, _), (37, _), (38, _), (39, _), (40, _), (41, _)], _⟩ [box _ _ [_, _, _], box _ _ [_, _, _], box _ _ [_, _, _], box _ _ [_], box _ _ [_], box _ _ [_]] [_, _, _, _, _, _, _, _, _, _, _, _, _] rfl rfl rfl rfl ?_
    generalize vals (0 + 1 + 1 + 1 + 1) = x40
    refine JL_usePost mm0 (fun φo hP => ?_)
    obtain ⟨ad40, cap40, rfl, hk40, hm40, rfl⟩ := hP
    refine JL_norm _ [box _ _ [_, _, _], box _ _ [_, _, _], box _ _ [_, _, _], box _ _ [_], box _ _ [_], box _ _ [_]] [_, _, _, _, _, _, _, _, _, _, _, _, _, _] rfl rfl rfl ?_
    refine JL_callF' (Asks.cons (holds_of_mem (by repeat (first | with_reducible exact mm0 | refine mmS ?_))) (Asks.cons (holds_of_mem (by repeat (first | with_reducible exact mm0 | refine mmS ?_))) Asks.nil)) (rmade_con (NIn.of (by omega)) (NIn.of (by omega)) (qadd_same h35)) rfl ca69 ⟨rfl, rfl, rfl, rfl⟩ ?_
    rintro _ _ ⟨ad42, cp42, be42, ce42, rfl, rfl⟩
    refine JL_store (vs := [_, _, _]) 2 ty26 rfl rfl rfl (AllOne.cons rfl (AllOne.cons rfl (AllOne.cons rfl AllOne.nil))) rfl (Nat.le_of_ble_eq_true rfl) ?_
    refine JL_done_up 69 [box _ _ [_, _, _], box _ _ [_, _, _], box _ _ [_, _, _], box _ _ [_], box _ _ [_], box _ _ [_]] [_, _, _, _, _, _, _, _, _, _, _, _, _, _, _, _] rfl rfl (by simp only [nrmF]; rfl) rfl rfl ?_
    refine JC_ret ?_
    refine JE_then_ret ?_
    refine JE_ret (vs := [_]) [vCells ad42 (u32s (fnum (some (q1 + q2)))), vCells be42 (u32s (fden (some (q1 + q2))))] Tryd.results41 ⟨RV.cell (vs := [_, _, _]) 2 ty26 rfl rfl ⟨rfl, rfl, rfl, trivial⟩, rfl⟩ ?_ ?_
    · exact ⟨ad42, cp42, be42, ce42, rfl, rfl⟩
    · exact (all_cons (by repeat (first | with_reducible exact mm0 | refine mmS ?_)) (all_cons (by repeat (first | with_reducible exact mm0 | refine mmS ?_)) all_nil))
  · refine JL_done_up 69 [box _ _ [_, _, _], box _ _ [_, _, _], box _ _ [_, _, _], box _ _ [_], box _ _ [_], box _ _ [_]] [_, _, _, _, _, _, _, _, _, _, _, _] rfl rfl (by simp only [nrmF]; rfl) rfl rfl ?_
    refine JC_false rfl ?_
    refine JC_skip ?_
    refine JE_then ?_
    refine JC_seq ?_
    refine JC_seq ?_
    refine JC_region ?_
    refine JL_loadA (vs := [_]) 3 ty24 rfl rfl ⟨rfl, trivial⟩ ?_
    refine JL_loadA (vs := [_]) 4 ty24 rfl rfl ⟨rfl, trivial⟩ ?_
    refine JL_callF' (Asks.cons (holds_of_mem (by repeat (first | with_reducible exact mm0 | refine mmS ?_))) (Asks.cons (holds_of_mem (by repeat (first | with_reducible exact mm0 | refine mmS ?_))) Asks.nil)) (rcmp_con _ _ _ _ _ (NIn.of (by omega)) _ _ _ _ _ (NIn.of (by omega))) rfl ca71 ⟨rfl, rfl, rfl⟩ ?_
    rintro _ _ ⟨rfl, rfl⟩
    refine JL_geq rfl rfl ?_
    refine JL_split (fun h46 => ?_) (fun h46 => ?_)
    · have hge : q2.num.natAbs * q1.den ≤ q1.num.natAbs * q2.den := by have := cmpN_neg (n := q1.num.natAbs * q2.den) (m := q2.num.natAbs * q1.den); omega
      refine JL_done_up 69 [box _ _ [_, _, _], box _ _ [_, _, _], box _ _ [_, _, _], box _ _ [_], box _ _ [_], box _ _ [_]] [_, _, _, _, _, _, _, _, _, _, _, _] rfl rfl (by simp only [nrmF]; rfl) rfl rfl ?_
      refine JC_true rfl ?_
      refine JC_seq ?_
      refine JC_region ?_
      refine JL_loadA (vs := [_]) 3 ty24 rfl rfl ⟨rfl, trivial⟩ ?_
      refine JL_loadA (vs := [_]) 4 ty24 rfl rfl ⟨rfl, trivial⟩ ?_
      have hsl := len_limbsOf_le (Nat.sub_le (q1.num.natAbs * q2.den) (q2.num.natAbs * q1.den))
      refine JL_callF' (Asks.cons (holds_of_mem (by repeat (first | with_reducible exact mm0 | refine mmS ?_))) (Asks.cons (holds_of_mem (by repeat (first | with_reducible exact mm0 | refine mmS ?_))) Asks.nil)) (rsub_con _ _ _ _ _ (NIn.of (by omega)) _ _ _ _ _ (NIn.of (by omega)) _ rfl) rfl ca72 ⟨rfl, rfl, rfl⟩ ?_
      rintro _ _ ⟨ad50, cap50, rfl, hk50, hm50, rfl⟩
      refine JL_move rfl ?_
      refine JL_extract rfl rfl ?_
      refine JL_extract rfl rfl ?_
      refine JL_alloc z24 (fun b8 => ?_)
      refine JL_store (vs := [_]) 6 ty24 rfl rfl rfl (AllOne.cons rfl AllOne.nil) rfl (Nat.le_of_ble_eq_true rfl) ?_
      refine JL_assign rfl ?_
      refine JL_done_up 69 [box _ _ [_, _, _], box _ _ [_, _, _], box _ _ [_, _, _], box _ _ [_], box _ _ [_], box _ _ [_], box _ _ [_]] [_, _, _, _, _, _, _, _, _, _, _, _, _] rfl rfl (by simp only [nrmF]; rfl) rfl rfl ?_
      refine JC_seq ?_
      refine JC_region ?_
      refine JL_fieldAddr fo26_0 rfl ?_
      refine JL_load 0 ty4 rfl rfl rfl ?_
      refine JL_loadA (vs := [_]) 6 ty24 rfl rfl ⟨rfl, trivial⟩ ?_
      refine JL_loadA (vs := [_]) 5 ty24 rfl rfl ⟨rfl, trivial⟩ ?_
      refine JL_callF' (Asks.cons (holds_of_mem (by repeat (first | with_reducible exact mm0 | refine mmS ?_))) (Asks.cons (holds_of_mem (by repeat (first | with_reducible exact mm0 | refine mmS ?_))) Asks.nil)) (rmade_con (NIn.of (by omega)) (NIn.of (by omega)) (qadd_ge h35 hge)) rfl ca69 ⟨rfl, rfl, rfl, rfl⟩ ?_
      rintro _ _ ⟨ad57, cp57, be57, ce57, rfl, rfl⟩
      refine JL_store (vs := [_, _, _]) 2 ty26 rfl rfl rfl (AllOne.cons rfl (AllOne.cons rfl (AllOne.cons rfl AllOne.nil))) rfl (Nat.le_of_ble_eq_true rfl) ?_
      refine JL_done_up 69 [box _ _ [_, _, _], box _ _ [_, _, _], box _ _ [_, _, _], box _ _ [_], box _ _ [_], box _ _ [_], box _ _ [_]] [_, _, _, _, _, _, _, _, _, _, _, _, _, _, _] rfl rfl (by simp only [nrmF]; rfl) rfl rfl ?_
      refine JC_ret ?_
      refine JE_then_ret ?_
      refine JE_ret (vs := [_]) [vCells ad57 (u32s (fnum (some (q1 + q2)))), vCells be57 (u32s (fden (some (q1 + q2))))] Tryd.results41 ⟨RV.cell (vs := [_, _, _]) 2 ty26 rfl rfl ⟨rfl, rfl, rfl, trivial⟩, rfl⟩ ?_ ?_
      · exact ⟨ad57, cp57, be57, ce57, rfl, rfl⟩
      · exact (all_cons (by repeat (first | with_reducible exact mm0 | refine mmS ?_)) (all_cons (by repeat (first | with_reducible exact mm0 | refine mmS ?_)) all_nil))
    · have hlt : q1.num.natAbs * q2.den ≤ q2.num.natAbs * q1.den := Nat.le_of_lt (cmpN_neg.1 (by omega))
      refine JL_done_up 69 [box _ _ [_, _, _], box _ _ [_, _, _], box _ _ [_, _, _], box _ _ [_], box _ _ [_], box _ _ [_]] [_, _, _, _, _, _, _, _, _, _, _, _] rfl rfl (by simp only [nrmF]; rfl) rfl rfl ?_
      refine JC_false rfl ?_
      refine JC_skip ?_
      refine JE_then ?_
      refine JC_seq ?_
      refine JC_region ?_
      refine JL_loadA (vs := [_]) 4 ty24 rfl rfl ⟨rfl, trivial⟩ ?_
      refine JL_loadA (vs := [_]) 3 ty24 rfl rfl ⟨rfl, trivial⟩ ?_
      have hsl := len_limbsOf_le (Nat.sub_le (q2.num.natAbs * q1.den) (q1.num.natAbs * q2.den))
      refine JL_callF' (Asks.cons (holds_of_mem (by repeat (first | with_reducible exact mm0 | refine mmS ?_))) (Asks.cons (holds_of_mem (by repeat (first | with_reducible exact mm0 | refine mmS ?_))) Asks.nil)) (rsub_con _ _ _ _ _ (NIn.of (by omega)) _ _ _ _ _ (NIn.of (by omega)) _ rfl) rfl ca72 ⟨rfl, rfl, rfl⟩ ?_
      rintro _ _ ⟨ad61, cap61, rfl, hk61, hm61, rfl⟩
      refine JL_move rfl ?_
      refine JL_extract rfl rfl ?_
      refine JL_extract rfl rfl ?_
      refine JL_alloc z24 (fun b10 => ?_)
      refine JL_store (vs := [_]) 6 ty24 rfl rfl rfl (AllOne.cons rfl AllOne.nil) rfl (Nat.le_of_ble_eq_true rfl) ?_
      refine JL_assign rfl ?_
      refine JL_done_up 69 [box _ _ [_, _, _], box _ _ [_, _, _], box _ _ [_, _, _], box _ _ [_], box _ _ [_], box _ _ [_], box _ _ [_]] [_, _, _, _, _, _, _, _, _, _, _, _, _] rfl rfl (by simp only [nrmF]; rfl) rfl rfl ?_
      refine JC_seq ?_
      refine JC_region ?_
      refine JL_fieldAddr fo26_0 rfl ?_
      refine JL_load 1 ty4 rfl rfl rfl ?_
      refine JL_loadA (vs := [_]) 6 ty24 rfl rfl ⟨rfl, trivial⟩ ?_
      refine JL_loadA (vs := [_]) 5 ty24 rfl rfl ⟨rfl, trivial⟩ ?_
      refine JL_callF' (Asks.cons (holds_of_mem (by repeat (first | with_reducible exact mm0 | refine mmS ?_))) (Asks.cons (holds_of_mem (by repeat (first | with_reducible exact mm0 | refine mmS ?_))) Asks.nil)) (rmade_con (NIn.of (by omega)) (NIn.of (by omega)) (qadd_le h35 hlt)) rfl ca69 ⟨rfl, rfl, rfl, rfl⟩ ?_
      rintro _ _ ⟨ad68, cp68, be68, ce68, rfl, rfl⟩
      refine JL_store (vs := [_, _, _]) 2 ty26 rfl rfl rfl (AllOne.cons rfl (AllOne.cons rfl (AllOne.cons rfl AllOne.nil))) rfl (Nat.le_of_ble_eq_true rfl) ?_
      refine JL_done_up 69 [box _ _ [_, _, _], box _ _ [_, _, _], box _ _ [_, _, _], box _ _ [_], box _ _ [_], box _ _ [_], box _ _ [_]] [_, _, _, _, _, _, _, _, _, _, _, _, _, _, _] rfl rfl (by simp only [nrmF]; rfl) rfl rfl ?_
      refine JC_ret ?_
      refine JE_ret (vs := [_]) [vCells ad68 (u32s (fnum (some (q1 + q2)))), vCells be68 (u32s (fden (some (q1 + q2))))] Tryd.results41 ⟨RV.cell (vs := [_, _, _]) 2 ty26 rfl rfl ⟨rfl, rfl, rfl, trivial⟩, rfl⟩ ?_ ?_
      · exact ⟨ad68, cp68, be68, ce68, rfl, rfl⟩
      · exact (all_cons (by repeat (first | with_reducible exact mm0 | refine mmS ?_)) (all_cons (by repeat (first | with_reducible exact mm0 | refine mmS ?_)) all_nil))

end Go.Fw.K
