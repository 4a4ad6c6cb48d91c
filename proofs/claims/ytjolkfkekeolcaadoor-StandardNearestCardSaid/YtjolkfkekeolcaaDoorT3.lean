/- Walks through functions of the given program: each meets its contract. (Printed by a program of this repo.) -/
import Derived.Test.YtjolkfkekeolcaaDoorS7
import Derived.Test.YtjolkfkekeolcaaDoorS8
import Derived.Test.YtjolkfkekeolcaaDoorS9
import Derived.Test.YtjolkfkekeolcaaDoorStdE
import Derived.Test.YtjolkfkekeolcaaDoorS2
import Derived.Test.YtjolkfkekeolcaaDoorProg
namespace Go.Fw.T3
open Go Go.RowKit Go.Proofs Go.Nat9 Go.Fw
attribute [local irreducible] JC JL JE
theorem ca13 : callable Tryd.prog 13 = true := by kernel_rfl
theorem ca17 : callable Tryd.prog 17 = true := by kernel_rfl
theorem ca18 : callable Tryd.prog 18 = true := by kernel_rfl
theorem ca19 : callable Tryd.prog 19 = true := by kernel_rfl
theorem ca20 : callable Tryd.prog 20 = true := by kernel_rfl
theorem ca21 : callable Tryd.prog 21 = true := by kernel_rfl
theorem ca22 : callable Tryd.prog 22 = true := by kernel_rfl
theorem ca23 : callable Tryd.prog 23 = true := by kernel_rfl
theorem ca24 : callable Tryd.prog 24 = true := by kernel_rfl
theorem ca9 : callable Tryd.prog 9 = true := by kernel_rfl
theorem fo44_0 : fOf Tryd.prog 44 0 = some 0 := by kernel_rfl
theorem fo44_1 : fOf Tryd.prog 44 1 = some 1 := by kernel_rfl
theorem mixed : Tryd.prog.follows .mixedOrders = true := by kernel_rfl
theorem sl61 : slOf Tryd.prog 61 = some (35, 3, 56, [.bool false, .slice none 0 0, .slice none 0 0]) := by kernel_rfl
theorem ty3 : tyOf Tryd.prog 3 = some (false, 1) := by kernel_rfl
theorem ty35 : tyOf Tryd.prog 35 = some (true, 3) := by kernel_rfl
theorem z35 : zeroOf Tryd.prog 35 = some [.bool false, .slice none 0 0, .slice none 0 0] := by kernel_rfl
end Go.Fw.T3
namespace Go.Fw.K
open Go Go.RowKit Go.Proofs Go.Nat9 Go.Fw Go.Fw.T3
attribute [local irreducible] JC JL JE

theorem imulN_con {w m : Int} {s1 : Bool} {ad1 : Option Addr} {n1 c1 : Nat} {L1 : List Nat} {be1 : Option Addr} {m1 e1 : Nat} {M1 : List Nat} {q1 : Rat} (g1 : FIn s1 n1 L1 m1 M1 q1 4) {k : Int} {r : Rat} (hE : mulE w q1 m = 0) (hK : mulK w q1 m = k) (hO : mulO w q1 m = some r) : ConF Tryd.prog 20 [.int .i64 w, .agg #[.bool s1, .slice ad1 n1 c1, .slice be1 m1 e1], .int .i64 m] [vCells ad1 (u32s L1), vCells be1 (u32s M1)] (MUL k (some r) 0) := by
  have e := imul_con (w := w) (m := m) (ad1 := ad1) (c1 := c1) (be1 := be1) (e1 := e1) g1
  rw [hK, hO, hE] at e
  exact e
theorem binT_con {n lo hi : Int} (h : lo ≤ n ∧ n ≤ hi) : ConF Tryd.prog 17 [.int .i64 n, .int .i64 lo, .int .i64 hi] [] (fun v φo => v = .bool true ∧ φo = []) := by
  have e := bin38_con (n := n) (lo := lo) (hi := hi)
  rw [decide_eq_true h] at e
  exact e


set_option maxHeartbeats 4000000 in
set_option maxRecDepth 20000 in
theorem standardNearest_con {w a b : Int} (hw1 : -9223372036854775808 ≤ w) (hw2 : w ≤ 9223372036854775807) {s1 : Bool} {ad1 : Option Addr} {n1 c1 : Nat} {L1 : List Nat} {be1 : Option Addr} {m1 e1 : Nat} {M1 : List Nat} (r1 : RIn n1 L1 m1 M1) (ha1 : -9223372036854775808 ≤ a) (ha2 : a ≤ 9223372036854775807) (hb1 : -9223372036854775808 ≤ b) (hb2 : b ≤ 9223372036854775807) :
    ConF Tryd.prog 5 [.int .i64 w, .agg #[.bool s1, .slice ad1 n1 c1, .slice be1 m1 e1], .agg #[.int .i64 a, .int .i64 b]] [vCells ad1 (u32s L1), vCells be1 (u32s M1), vTab]
      (fun v φo => v = .bool true ∧ φo = []) := by
  have _ := hw1
  have _ := hw2
  have _ := ha1
  have _ := ha2
  have _ := hb1
  have _ := hb2
  refine ConF_of Tryd.func5 rfl 136 _ rfl rfl ?_
  intro w0
  refine JC_norm ⟨136, [], [_, _, _, _, _, _, _, _, _, _, _, _, _, _, _, _, _, _, _, _, _, _, _, _, _, _, _, _, _, _, _, _, _, _, _, _, _, _, _, _, _, _, _, _, _, _, _, _, _, _, _, _, _, _, _, _, _, _, _, _, _, _, _, _, _, _, _, _, _, _, _, _, _, _, _, _, _, _, _, _, _, _, _, _, _, _, _, _, _, _, _, _, _, _, _, _, _, _, _, _, _, _, _, _, _, _, _, _, _, _, _, _, _, _, _, _, _, _, _, _, _, _, _, _, _, _, _, _, _, _, _, _, _, _, _, _]⟩ [] [_, _, _] rfl rfl rfl ?_
  refine JC_seq ?_
  refine JC_region ?_
  refine JL_box rfl rfl (fun b4 => ?_)
  refine JL_box rfl rfl (fun b5 => ?_)
  refine JL_assign rfl ?_
  refine JL_done_up 136 [box _ _ [_, _, _], box _ _ [_, _]] [_, _, _] rfl rfl (by simp only [nrmF]; rfl) rfl rfl ?_
  refine JC_seq ?_
  refine JC_seq ?_
  refine JC_region ?_
  refine JL_callF' (Asks.cons (holds_of_mem (by repeat (first | with_reducible exact mm0 | refine mmS ?_))) Asks.nil) (awake38_con) rfl ca9 rfl ?_
  rintro _ _ ⟨rfl, rfl⟩
  refine JL_not rfl ?_
  rw [Bool.not_true]
  refine JL_move rfl ?_
  refine JL_guard_yes rfl rfl ?_
  refine JL_loadA (vs := [_, _, _]) 0 ty35 rfl rfl ⟨rfl, rfl, rfl, trivial⟩ ?_
  refine JL_guard_yes rfl rfl ?_
  refine JL_buildN (cs0 := [.bool false, .slice none 0 0, .slice none 0 0]) (cs := [_, _, _]) [(0, [_, _, _])] sl61 (by kernel_rfl) ⟨⟨rfl, _, rfl, rfl⟩, rfl⟩ rfl rfl rfl rfl (fun g24 => ?_)
  refine JL_guard_yes rfl rfl ?_
  refine JL_callF' (Asks.cons (by first | exact holds_of_mem (by repeat (first | with_reducible exact mm0 | refine mmS ?_)) | (exact holds_of_own 2 rfl)) Asks.nil) (few38_con (l := [⟨s1, ad1, n1, c1, L1, be1, m1, e1, M1⟩]) (Nat.le_of_ble_eq_true rfl)) rfl ca13 ⟨rfl, rfl, rfl⟩ ?_
  rintro _ _ ⟨b25, rfl, rfl, hb25⟩
  refine JL_splitV (fun h25 => ?_) (fun h25 => ?_)
  · obtain ⟨hw70, _, hf25⟩ := hb25 h25
    obtain ⟨a1, b1⟩ : n1 ≤ 3 ∧ m1 ≤ 3 := hf25 0 (Nat.le_of_ble_eq_true rfl)
    have g1 := r1.fin (s := s1) (Nat.le_succ_of_le a1) (Nat.le_succ_of_le b1)
    obtain ⟨q1, hQ1⟩ : ∃ q, mkq s1 (val L1) (val M1) = q := ⟨_, rfl⟩
    rw [hQ1] at g1
    have _ := hw70
    have hq3 : qs q1 4 := by rw [← hQ1]; exact raw_qs r1.u1 (by rw [r1.l1]; exact a1) r1.u2 (by rw [r1.l2]; exact b1)
    refine JL_guard_yes rfl rfl ?_
    refine JL_not rfl ?_
    rw [Bool.not_true]
    refine JL_pick_f rfl rfl ?_
    refine JL_move rfl ?_
    refine JL_guard_yes rfl rfl ?_
    refine JL_move rfl ?_
    refine JL_guard_yes rfl rfl ?_
    refine JL_callF' Asks.nil (bin38_con) rfl ca17 ⟨rfl, rfl, rfl, rfl⟩ ?_
    rintro _ _ ⟨rfl, rfl⟩
    refine JL_split (fun h30 => ?_) (fun h30 => ?_)
    · refine JL_guard_yes rfl rfl ?_
      refine JL_not rfl ?_
      rw [Bool.not_true]
      refine JL_pick_f rfl rfl ?_
      refine JL_move rfl ?_
      refine JL_guard_yes rfl rfl ?_
      refine JL_loadA (vs := [_, _, _]) 0 ty35 rfl rfl ⟨rfl, rfl, rfl, trivial⟩ ?_
      refine JL_guard_yes rfl rfl ?_
      refine JL_callF' (Asks.cons (by first | exact holds_of_mem (by repeat (first | with_reducible exact mm0 | refine mmS ?_)) | (exact holds_of_own 2 rfl)) (Asks.cons (by first | exact holds_of_mem (by repeat (first | with_reducible exact mm0 | refine mmS ?_)) | (exact holds_of_own 2 rfl)) Asks.nil)) (fsign_con (g1.mono (by decide))) rfl ca18 ⟨rfl, rfl⟩ ?_
      rintro _ _ ⟨rfl, rfl⟩
      refine JL_guard_yes rfl rfl ?_
      refine JL_leq rfl rfl ?_
      refine JL_split (fun h36 => ?_) (fun h36 => ?_)
      · refine JL_pick_f rfl rfl ?_
        refine JL_done_up 136 [box _ _ [_, _, _], box _ _ [_, _], osl _ _ _ _ _ _] [_, _, _] rfl rfl (by simp only [nrmF]; rfl) rfl rfl ?_
        refine JC_true rfl ?_
        refine JC_seq ?_
        refine JC_region ?_
        refine JL_callF' (Asks.cons (by first | exact holds_of_mem (by repeat (first | with_reducible exact mm0 | refine mmS ?_)) | (exact holds_of_own 2 rfl)) Asks.nil) (awake38_con) rfl ca9 rfl ?_
        rintro _ _ ⟨rfl, rfl⟩
        refine JL_assign rfl ?_
        refine JL_done_up 136 [box _ _ [_, _, _], box _ _ [_, _], osl _ _ _ _ _ _] [_, _, _] rfl rfl (by simp only [nrmF]; rfl) rfl rfl ?_
        refine JC_ret ?_
        refine JE_then_ret ?_
        refine JE_ret (vs := [_]) [] Tryd.results5 ⟨rfl, rfl⟩ ?_ ?_
        · exact ⟨rfl, rfl⟩
        · exact all_nil
      · refine JL_pick_f rfl rfl ?_
        refine JL_done_up 136 [box _ _ [_, _, _], box _ _ [_, _], osl _ _ _ _ _ _] [_, _, _] rfl rfl (by simp only [nrmF]; rfl) rfl rfl ?_
        refine JC_false rfl ?_
        refine JC_skip ?_
        refine JE_then ?_
        refine JC_seq ?_
        have hma := imod_in (a := a) (y := 24) (by decide)
        have hmb := imod_in (a := b) (y := 10) (by decide)
        refine JC_drawT mixed 9 [spV 39 [] _, spV 40 [0] _, spC 41 [1] _, spV 42 [2] _, spV 43 [] _, spV 44 [4] _, spC 45 [5] _, spV 46 [6] _, spV 7 [3] _] ⟨OblS_V (fun vals ex ψ => (by
            refine JL_normQ ⟨136, [(39, _), (40, _), (41, _), (42, _), (43, _), (44, _), (45, _), (46, _), (7, _)], _⟩ (_ :: _ :: _ :: ψ) rfl rfl ?_
            refine JL_fieldAddr fo44_0 rfl ?_
            exact JL_nil (JE_stepV rfl ss0))), OblS_V (fun vals ex ψ => (by
            refine JL_normQ ⟨136, [(39, _), (40, _), (41, _), (42, _), (43, _), (44, _), (45, _), (46, _), (7, _)], _⟩ (_ :: _ :: _ :: ψ) rfl rfl ?_
            refine JL_load 1 ty3 rfl rfl rfl ?_
            exact JL_nil (JE_stepV rfl ss0))), OblS_C (fun vals ex ψ => (by
            refine JL_normQ ⟨136, [(39, _), (40, _), (41, _), (42, _), (43, _), (44, _), (45, _), (46, _), (7, _)], _⟩ (_ :: _ :: _ :: ψ) rfl rfl ?_
            refine JL_callF' Asks.nil (bmod_con (y := 24) (by omega)) rfl ca19 ⟨rfl, rfl, rfl⟩ ?_
            exact fun v φo hP => JL_nil (JE_stepC φo rfl hP (fun p hp => mapB_l hp) (fun p hp => mapB_r (ss0 p hp))))), OblS_V (fun vals ex ψ => (by
            refine JL_normQ ⟨136, [(39, _), (40, _), (41, _), (42, _), (43, _), (44, _), (45, _), (46, _), (7, _)], _⟩ (_ :: _ :: _ :: _ :: ψ) rfl rfl ?_
            generalize vals 2 = x41
            refine JL_usePost mm0 (fun φo hP => ?_)
            obtain ⟨rfl, rfl⟩ := hP
            refine JL_norm _ _ (_ :: _ :: _ :: _ :: ψ) rfl rfl rfl ?_
            refine JL_add_to rfl rfl (IntWalk.i64_in _ (by omega)) ?_
            exact JL_nil (JE_stepV rfl ss0))), OblS_V (fun vals ex ψ => (by
            refine JL_normQ ⟨136, [(39, _), (40, _), (41, _), (42, _), (43, _), (44, _), (45, _), (46, _), (7, _)], _⟩ (_ :: _ :: _ :: ψ) rfl rfl ?_
            refine JL_fieldAddr fo44_1 rfl ?_
            exact JL_nil (JE_stepV rfl ss0))), OblS_V (fun vals ex ψ => (by
            refine JL_normQ ⟨136, [(39, _), (40, _), (41, _), (42, _), (43, _), (44, _), (45, _), (46, _), (7, _)], _⟩ (_ :: _ :: _ :: ψ) rfl rfl ?_
            refine JL_load 1 ty3 rfl rfl rfl ?_
            exact JL_nil (JE_stepV rfl ss0))), OblS_C (fun vals ex ψ => (by
            refine JL_normQ ⟨136, [(39, _), (40, _), (41, _), (42, _), (43, _), (44, _), (45, _), (46, _), (7, _)], _⟩ (_ :: _ :: _ :: ψ) rfl rfl ?_
            refine JL_callF' Asks.nil (bmod_con (y := 10) (by omega)) rfl ca19 ⟨rfl, rfl, rfl⟩ ?_
            exact fun v φo hP => JL_nil (JE_stepC φo rfl hP (fun p hp => mapB_l hp) (fun p hp => mapB_r (ss0 p hp))))), OblS_V (fun vals ex ψ => (by
            refine JL_normQ ⟨136, [(39, _), (40, _), (41, _), (42, _), (43, _), (44, _), (45, _), (46, _), (7, _)], _⟩ (_ :: _ :: _ :: _ :: ψ) rfl rfl ?_
            generalize vals 6 = x45
            refine JL_usePost mm0 (fun φo hP => ?_)
            obtain ⟨rfl, rfl⟩ := hP
            refine JL_norm _ _ (_ :: _ :: _ :: _ :: ψ) rfl rfl rfl ?_
            refine JL_add_to rfl rfl (IntWalk.i64_in _ (by omega)) ?_
            exact JL_nil (JE_stepV rfl ss0))), OblS_V (fun vals ex ψ => (by
            refine JL_normQ ⟨136, [(39, _), (40, _), (41, _), (42, _), (43, _), (44, _), (45, _), (46, _), (7, _)], _⟩ (_ :: _ :: _ :: ψ) rfl rfl ?_
            refine JL_assign rfl ?_
            exact JL_nil (JE_stepV rfl ss0))), trivial⟩ (by kernel_rfl) (fun vals bs => ?_)
        refine JL_normL [_] ⟨136, [(39, _), (40, _), (41, _), (42, _), (43, _), (44, _), (45, _), (46, _), (7, _)], _⟩ [box _ _ [_, _, _], box _ _ [_, _], osl _ _ _ _ _ _] [_, _, _, _, _] rfl rfl rfl rfl ?_
        generalize vals (0 + 1 + 1) = x41
        generalize vals (0 + 1 + 1 + 1 + 1 + 1 + 1) = x45
        refine JL_assign rfl ?_
        refine JL_done_up 136 [box _ _ [_, _, _], box _ _ [_, _], osl _ _ _ _ _ _] [_, _, _, _, _] rfl rfl (by simp only [nrmF]; rfl) rfl rfl ?_
        refine JC_seq ?_
        obtain ⟨M, hM⟩ : ∃ M, (1 : Int) + imod a 24 = M := ⟨_, rfl⟩
        obtain ⟨s, hs⟩ : ∃ s, (1 : Int) + imod b 10 = s := ⟨_, rfl⟩
        rw [hM, hs]
        have hM24 : 1 ≤ M ∧ M ≤ 24 := by omega
        have hs10 : 1 ≤ s ∧ s ≤ 10 := by omega
        have hu : 0 < q1 := sgn_pos.1 (by omega)
        have hw : wOk w := ⟨by omega, by omega⟩
        have hsw : 1 ≤ s * w ∧ s * w ≤ 200000 := ⟨by have := Int.mul_le_mul (a := 1) (b := 1) (c := s) (d := w) (by omega) (by omega) (by omega) (by omega); omega, by have := Int.mul_le_mul (a := s) (b := w) (c := 10) (d := 20000) (by omega) (by omega) (by omega) (by omega); omega⟩
        obtain ⟨k, r, hE, hK, hO, hN, hqr⟩ := near_law hw hu (hq3.mono (by decide)) hM24
        obtain ⟨hE2, hK2, hO2⟩ := near_scaled hw hsw hu hs10.1 hM24 hK hO
        have hqs : qs (ofq s 1) 1 := qs_small (by omega)
        have hq4 : qs (q1 * ofq s 1) 4 := by rw [← hQ1]; exact raw_scaled r1.u1 (by rw [r1.l1]; exact a1) r1.u2 (by rw [r1.l2]; exact b1) hs10
        have hqw : qs (ofq w 1) 3 := qs_ofi (by omega)
        have hk := hN.lo
        have hk2 := hN.hi
        have hqk : qs (ofq k 1) 3 := qs_ofi (by omega)
        have hqku : qs (ofq k 1 * q1) 7 := hqk.mul hq3 (Nat.le_refl 7)
        have hqrs : qs (r * ofq s 1) 13 := hqr.mul hqs (Nat.le_refl 13)
        have hqrr : qs (r * r) 24 := hqr.mul hqr (Nat.le_refl 24)
        refine JC_region ?_
        refine JL_move rfl ?_
        refine JL_loadA (vs := [_, _, _]) 0 ty35 rfl rfl ⟨rfl, rfl, rfl, trivial⟩ ?_
        refine JL_move rfl ?_
        refine JL_callF' (Asks.cons (by first | exact holds_of_mem (by repeat (first | with_reducible exact mm0 | refine mmS ?_)) | (exact holds_of_own 2 rfl)) (Asks.cons (by first | exact holds_of_mem (by repeat (first | with_reducible exact mm0 | refine mmS ?_)) | (exact holds_of_own 2 rfl)) Asks.nil)) (imulN_con (w := w) (m := M) g1 hE hK hO) rfl ca20 ⟨rfl, rfl, rfl, rfl⟩ ?_
        rintro _ _ ⟨ad51, cp51, be51, ce51, rfl, rfl⟩
        refine JL_move rfl ?_
        refine JL_extract rfl rfl ?_
        refine JL_extract rfl rfl ?_
        refine JL_extract rfl rfl ?_
        refine JL_alloc z35 (fun b10 => ?_)
        refine JL_assign rfl ?_
        refine JL_store (vs := [_, _, _]) 3 ty35 rfl rfl rfl (AllOne.cons rfl (AllOne.cons rfl (AllOne.cons rfl AllOne.nil))) rfl (Nat.le_of_ble_eq_true rfl) ?_
        refine JL_assign rfl ?_
        refine JL_done_up 136 [box _ _ [_, _, _], box _ _ [_, _], osl _ _ _ _ _ _, box _ _ [_, _, _]] [_, _, _, _, _, _, _] rfl rfl (by simp only [nrmF]; rfl) rfl rfl ?_
        refine JC_seq ?_
        refine JC_drawLate mixed 15 12 [spV 56 [] _, spV 57 [] _, spV 58 [0, 1] _, spV 59 [] _, spV 60 [] _, spC 61 [4] _, spC 62 [3, 5] _, spV 63 [] _, spC 64 [2, 6, 7] _, spC 55 [8] _, spC 65 [9] (fun v φo => v = .int .i64 k ∧ φo = []), spC 66 [9] (FO (some (r * ofq s 1))), spC 67 [9] (fun v φo => v = .int .i64 0 ∧ φo = []), spA 13 35 [.bool false, .slice none 0 0, .slice none 0 0], spC 12 [10] _] ⟨OblS_V (fun vals ex ψ => (by
            refine JL_normQ ⟨136, [(56, _), (57, _), (58, _), (59, _), (60, _), (61, _), (62, _), (63, _), (64, _), (55, _), (65, _), (66, _), (67, _), (13, _), (12, _)], _⟩ (_ :: _ :: _ :: _ :: _ :: _ :: _ :: ψ) rfl rfl ?_
            refine JL_move rfl ?_
            exact JL_nil (JE_stepV rfl ss0))), OblS_V (fun vals ex ψ => (by
            refine JL_normQ ⟨136, [(56, _), (57, _), (58, _), (59, _), (60, _), (61, _), (62, _), (63, _), (64, _), (55, _), (65, _), (66, _), (67, _), (13, _), (12, _)], _⟩ (_ :: _ :: _ :: _ :: _ :: _ :: _ :: ψ) rfl rfl ?_
            refine JL_move rfl ?_
            exact JL_nil (JE_stepV rfl ss0))), OblS_V (fun vals ex ψ => (by
            refine JL_normQ ⟨136, [(56, _), (57, _), (58, _), (59, _), (60, _), (61, _), (62, _), (63, _), (64, _), (55, _), (65, _), (66, _), (67, _), (13, _), (12, _)], _⟩ (_ :: _ :: _ :: _ :: _ :: _ :: _ :: ψ) rfl rfl ?_
            refine JL_mul_to rfl rfl (IntWalk.i64_in _ (by omega)) ?_
            exact JL_nil (JE_stepV rfl ss0))), OblS_V (fun vals ex ψ => (by
            refine JL_normQ ⟨136, [(56, _), (57, _), (58, _), (59, _), (60, _), (61, _), (62, _), (63, _), (64, _), (55, _), (65, _), (66, _), (67, _), (13, _), (12, _)], _⟩ (_ :: _ :: _ :: _ :: _ :: _ :: _ :: ψ) rfl rfl ?_
            refine JL_loadA (vs := [_, _, _]) 0 ty35 rfl rfl ⟨rfl, rfl, rfl, trivial⟩ ?_
            exact JL_nil (JE_stepV rfl ss0))), OblS_V (fun vals ex ψ => (by
            refine JL_normQ ⟨136, [(56, _), (57, _), (58, _), (59, _), (60, _), (61, _), (62, _), (63, _), (64, _), (55, _), (65, _), (66, _), (67, _), (13, _), (12, _)], _⟩ (_ :: _ :: _ :: _ :: _ :: _ :: _ :: ψ) rfl rfl ?_
            refine JL_move rfl ?_
            exact JL_nil (JE_stepV rfl ss0))), OblS_C (fun vals ex ψ => (by
            refine JL_normQ ⟨136, [(56, _), (57, _), (58, _), (59, _), (60, _), (61, _), (62, _), (63, _), (64, _), (55, _), (65, _), (66, _), (67, _), (13, _), (12, _)], _⟩ (_ :: _ :: _ :: _ :: _ :: _ :: _ :: ψ) rfl rfl ?_
            refine JL_callF' Asks.nil (fofi_con s 1 (by omega) (by omega)) rfl ca22 ⟨rfl, rfl, rfl⟩ ?_
            exact fun v φo hP => JL_nil (JE_stepC φo rfl hP (fun p hp => mapB_l hp) (fun p hp => mapB_r (ss0 p hp))))), OblS_C (fun vals ex ψ => (by
            refine JL_normQ ⟨136, [(56, _), (57, _), (58, _), (59, _), (60, _), (61, _), (62, _), (63, _), (64, _), (55, _), (65, _), (66, _), (67, _), (13, _), (12, _)], _⟩ (_ :: _ :: _ :: _ :: _ :: _ :: _ :: _ :: ψ) rfl rfl ?_
            generalize vals 5 = x61
            refine JL_usePost mm0 (fun φo hP => ?_)
            obtain ⟨ad61, cp61, be61, ce61, rfl, rfl⟩ := hP
            refine JL_norm _ _ (_ :: _ :: _ :: _ :: _ :: _ :: _ :: _ :: _ :: _ :: ψ) rfl rfl rfl ?_
            refine JL_callF' (Asks.cons (by first | exact holds_of_mem (by repeat (first | with_reducible exact mm0 | refine mmS ?_)) | (exact holds_of_own 2 rfl)) (Asks.cons (by first | exact holds_of_mem (by repeat (first | with_reducible exact mm0 | refine mmS ?_)) | (exact holds_of_own 2 rfl)) (Asks.cons (by first | exact holds_of_mem (by repeat (first | with_reducible exact mm0 | refine mmS ?_)) | (exact holds_of_own 2 rfl)) (Asks.cons (by first | exact holds_of_mem (by repeat (first | with_reducible exact mm0 | refine mmS ?_)) | (exact holds_of_own 2 rfl)) Asks.nil)))) (fmulq_con (g1.mono (by decide)) (FIn.some (hqs.mono (by decide)))) rfl ca21 ⟨rfl, rfl, rfl⟩ ?_
            exact fun v φo hP => JL_nil (JE_stepC φo rfl hP (fun p hp => mapB_l hp) (fun p hp => mapB_r ((ssS (ssS ss0)) p hp))))), OblS_V (fun vals ex ψ => (by
            refine JL_normQ ⟨136, [(56, _), (57, _), (58, _), (59, _), (60, _), (61, _), (62, _), (63, _), (64, _), (55, _), (65, _), (66, _), (67, _), (13, _), (12, _)], _⟩ (_ :: _ :: _ :: _ :: _ :: _ :: _ :: ψ) rfl rfl ?_
            refine JL_move rfl ?_
            exact JL_nil (JE_stepV rfl ss0))), OblS_C (fun vals ex ψ => (by
            refine JL_normQ ⟨136, [(56, _), (57, _), (58, _), (59, _), (60, _), (61, _), (62, _), (63, _), (64, _), (55, _), (65, _), (66, _), (67, _), (13, _), (12, _)], _⟩ (_ :: _ :: _ :: _ :: _ :: _ :: _ :: _ :: ψ) rfl rfl ?_
            generalize vals 6 = x62
            refine JL_usePost mm0 (fun φo hP => ?_)
            obtain ⟨ad62, cp62, be62, ce62, rfl, rfl⟩ := hP
            refine JL_norm _ _ (_ :: _ :: _ :: _ :: _ :: _ :: _ :: _ :: _ :: _ :: ψ) rfl rfl rfl ?_
            refine JL_callF' (Asks.cons (by first | exact holds_of_mem (by repeat (first | with_reducible exact mm0 | refine mmS ?_)) | (exact holds_of_own 2 rfl)) (Asks.cons (by first | exact holds_of_mem (by repeat (first | with_reducible exact mm0 | refine mmS ?_)) | (exact holds_of_own 2 rfl)) Asks.nil)) (imulN_con (w := s * w) (m := M) (FIn.some hq4) hE2 hK2 hO2) rfl ca20 ⟨rfl, rfl, rfl, rfl⟩ ?_
            exact fun v φo hP => JL_nil (JE_stepC φo rfl hP (fun p hp => mapB_l hp) (fun p hp => mapB_r ((ssS (ssS ss0)) p hp))))), OblS_C (fun vals ex ψ => (by
            refine JL_normQ ⟨136, [(56, _), (57, _), (58, _), (59, _), (60, _), (61, _), (62, _), (63, _), (64, _), (55, _), (65, _), (66, _), (67, _), (13, _), (12, _)], _⟩ (_ :: _ :: _ :: _ :: _ :: _ :: _ :: _ :: ψ) rfl rfl ?_
            generalize vals 8 = x64
            refine JL_usePost mm0 (fun φo hP => ?_)
            refine JL_move rfl ?_
            exact JL_nil (JE_stepC φo rfl hP (fun p hp => List.mem_append_left _ (List.mem_map.2 ⟨p, hp, rfl⟩)) (fun p hp => List.mem_append_right _ hp)))), OblS_C (fun vals ex ψ => (by
            refine JL_normQ ⟨136, [(56, _), (57, _), (58, _), (59, _), (60, _), (61, _), (62, _), (63, _), (64, _), (55, _), (65, _), (66, _), (67, _), (13, _), (12, _)], _⟩ (_ :: _ :: _ :: _ :: _ :: _ :: _ :: _ :: ψ) rfl rfl ?_
            generalize vals 9 = x55
            refine JL_usePost mm0 (fun φo hP => ?_)
            obtain ⟨ad55, cp55, be55, ce55, rfl, rfl⟩ := hP
            refine JL_norm _ _ (_ :: _ :: _ :: _ :: _ :: _ :: _ :: _ :: _ :: _ :: ψ) rfl rfl rfl ?_
            refine JL_extract rfl rfl ?_
            exact JL_nil (JE_stepC [] rfl ⟨rfl, rfl⟩ all_nil (ssS (ssS ss0))))), OblS_C (fun vals ex ψ => (by
            refine JL_normQ ⟨136, [(56, _), (57, _), (58, _), (59, _), (60, _), (61, _), (62, _), (63, _), (64, _), (55, _), (65, _), (66, _), (67, _), (13, _), (12, _)], _⟩ (_ :: _ :: _ :: _ :: _ :: _ :: _ :: _ :: ψ) rfl rfl ?_
            generalize vals 9 = x55
            refine JL_usePost mm0 (fun φo hP => ?_)
            obtain ⟨ad55, cp55, be55, ce55, rfl, rfl⟩ := hP
            refine JL_norm _ _ (_ :: _ :: _ :: _ :: _ :: _ :: _ :: _ :: _ :: _ :: ψ) rfl rfl rfl ?_
            refine JL_extract rfl rfl ?_
            exact JL_nil (JE_stepC [vCells ad55 (u32s (fnum (some (r * ofq s 1)))), vCells be55 (u32s (fden (some (r * ofq s 1))))] rfl ⟨ad55, cp55, be55, ce55, rfl, rfl⟩ (all_cons (by repeat (first | with_reducible exact mm0 | refine mmS ?_)) (all_cons (by repeat (first | with_reducible exact mm0 | refine mmS ?_)) all_nil)) (ssS (ssS ss0))))), OblS_C (fun vals ex ψ => (by
            refine JL_normQ ⟨136, [(56, _), (57, _), (58, _), (59, _), (60, _), (61, _), (62, _), (63, _), (64, _), (55, _), (65, _), (66, _), (67, _), (13, _), (12, _)], _⟩ (_ :: _ :: _ :: _ :: _ :: _ :: _ :: _ :: ψ) rfl rfl ?_
            generalize vals 9 = x55
            refine JL_usePost mm0 (fun φo hP => ?_)
            obtain ⟨ad55, cp55, be55, ce55, rfl, rfl⟩ := hP
            refine JL_norm _ _ (_ :: _ :: _ :: _ :: _ :: _ :: _ :: _ :: _ :: _ :: ψ) rfl rfl rfl ?_
            refine JL_extract rfl rfl ?_
            exact JL_nil (JE_stepC [] rfl ⟨rfl, rfl⟩ all_nil (ssS (ssS ss0))))), OblS_al rfl z35, OblS_C (fun vals ex ψ => (by
            refine JL_normQ ⟨136, [(56, _), (57, _), (58, _), (59, _), (60, _), (61, _), (62, _), (63, _), (64, _), (55, _), (65, _), (66, _), (67, _), (13, _), (12, _)], _⟩ (_ :: _ :: _ :: _ :: _ :: _ :: _ :: _ :: ψ) rfl rfl ?_
            generalize vals 10 = x65
            refine JL_usePost mm0 (fun φo hP => ?_)
            refine JL_assign rfl ?_
            exact JL_nil (JE_stepC φo rfl hP (fun p hp => List.mem_append_left _ (List.mem_map.2 ⟨p, hp, rfl⟩)) (fun p hp => List.mem_append_right _ hp)))), trivial⟩ (by kernel_rfl) rfl rfl rfl (fun vals bs => ?_) (fun vals bs => ?_)
        · refine JL_normL [_, _] ⟨136, [(56, _), (57, _), (58, _), (59, _), (60, _), (61, _), (62, _), (63, _), (64, _), (55, _), (65, _), (66, _), (67, _), (13, _), (12, _)], _⟩ [box _ _ [_, _, _], box _ _ [_, _], osl _ _ _ _ _ _, box _ _ [_, _, _], box _ _ [_, _, _]] [_, _, _, _, _, _, _, _, _, _, _, _, _, _, _] rfl rfl rfl rfl ?_
          generalize vals (0 + 1 + 1 + 1 + 1 + 1) = x61
          generalize vals (0 + 1 + 1 + 1 + 1 + 1 + 1) = x62
          generalize vals (0 + 1 + 1 + 1 + 1 + 1 + 1 + 1 + 1) = x64
          generalize vals (0 + 1 + 1 + 1 + 1 + 1 + 1 + 1 + 1 + 1) = x55
          generalize vals (0 + 1 + 1 + 1 + 1 + 1 + 1 + 1 + 1 + 1 + 1) = x65
          generalize vals (0 + 1 + 1 + 1 + 1 + 1 + 1 + 1 + 1 + 1 + 1 + 1) = x66
          generalize vals (0 + 1 + 1 + 1 + 1 + 1 + 1 + 1 + 1 + 1 + 1 + 1 + 1) = x67
          generalize bs (0 + 1 + 1 + 1 + 1 + 1 + 1 + 1 + 1 + 1 + 1 + 1 + 1 + 1) = b13
          generalize vals (0 + 1 + 1 + 1 + 1 + 1 + 1 + 1 + 1 + 1 + 1 + 1 + 1 + 1 + 1) = x12
          refine JL_usePost (mmS (mmS (mmS (mmS (mmS mm0))))) (fun φo hP => ?_)
          obtain ⟨ad66, cp66, be66, ce66, rfl, rfl⟩ := hP
          refine JL_norm _ [box _ _ [_, _, _], box _ _ [_, _], osl _ _ _ _ _ _, box _ _ [_, _, _], box _ _ [_, _, _]] [_, _, _, _, _, _, _, _, _, _, _, _, _, _, _, _, _] rfl rfl rfl ?_
          refine JL_usePost (mmS (mmS (mmS (mmS (mmS (mmS (mmS (mmS mm0)))))))) (fun φo hP => ?_)
          obtain ⟨rfl, rfl⟩ := hP
          refine JL_norm _ [box _ _ [_, _, _], box _ _ [_, _], osl _ _ _ _ _ _, box _ _ [_, _, _], box _ _ [_, _, _]] [_, _, _, _, _, _, _, _, _, _, _, _, _, _, _, _, _] rfl rfl rfl ?_
          refine JL_usePost (mmS (mmS (mmS (mmS (mmS (mmS (mmS (mmS (mmS mm0))))))))) (fun φo hP => ?_)
          obtain ⟨rfl, rfl⟩ := hP
          refine JL_norm _ [box _ _ [_, _, _], box _ _ [_, _], osl _ _ _ _ _ _, box _ _ [_, _, _], box _ _ [_, _, _]] [_, _, _, _, _, _, _, _, _, _, _, _, _, _, _, _, _] rfl rfl rfl ?_
          refine JL_store (vs := [_, _, _]) 4 ty35 rfl rfl rfl (AllOne.cons rfl (AllOne.cons rfl (AllOne.cons rfl AllOne.nil))) rfl (Nat.le_of_ble_eq_true rfl) ?_
          refine JL_assign rfl ?_
          refine JL_done_up 136 [box _ _ [_, _, _], box _ _ [_, _], osl _ _ _ _ _ _, box _ _ [_, _, _], box _ _ [_, _, _]] [_, _, _, _, _, _, _, _, _, _, _, _, _, _, _, _, _] rfl rfl (by simp only [nrmF]; rfl) rfl rfl ?_
          refine JC_seq ?_
          refine JC_seq ?_
          refine JC_drawT mixed 23 [spV 68 [] _, spV 69 [0] _, spV 70 [1] _, spV 71 [2] _, spV 72 [2, 3] _, spV 73 [2, 4] _, spV 74 [5] _, spV 75 [6] _, spV 76 [6] _, spV 77 [6, 7, 8] _, spV 78 [6, 9] _, spV 79 [10] _, spV 80 [11] _, spV 81 [11] _, spV 82 [11] _, spC 83 [11, 14] _, spC 84 [11, 13, 15] _, spC 85 [11, 12, 16] _, spV 86 [11, 17] _, spV 87 [11, 18] _, spV 88 [19] _, spV 89 [20] _, spV 90 [20] _] ⟨OblS_V (fun vals ex ψ => (by
              refine JL_normQ ⟨136, [(68, _), (69, _), (70, _), (71, _), (72, _), (73, _), (74, _), (75, _), (76, _), (77, _), (78, _), (79, _), (80, _), (81, _), (82, _), (83, _), (84, _), (85, _), (86, _), (87, _), (88, _), (89, _), (90, _)], _⟩ (_ :: _ :: _ :: _ :: _ :: _ :: _ :: _ :: _ :: _ :: _ :: _ :: _ :: _ :: _ :: _ :: _ :: ψ) rfl rfl ?_
              refine JL_move rfl ?_
              exact JL_nil (JE_stepV rfl ss0))), OblS_V (fun vals ex ψ => (by
              refine JL_normQ ⟨136, [(68, _), (69, _), (70, _), (71, _), (72, _), (73, _), (74, _), (75, _), (76, _), (77, _), (78, _), (79, _), (80, _), (81, _), (82, _), (83, _), (84, _), (85, _), (86, _), (87, _), (88, _), (89, _), (90, _)], _⟩ (_ :: _ :: _ :: _ :: _ :: _ :: _ :: _ :: _ :: _ :: _ :: _ :: _ :: _ :: _ :: _ :: _ :: ψ) rfl rfl ?_
              refine JL_neq rfl rfl ?_
              rw [decide_eq_false (p := (0 : Int) ≠ 0) (fun h => h rfl)]
              exact JL_nil (JE_stepV rfl ss0))), OblS_V (fun vals ex ψ => (by
              refine JL_normQ ⟨136, [(68, _), (69, _), (70, _), (71, _), (72, _), (73, _), (74, _), (75, _), (76, _), (77, _), (78, _), (79, _), (80, _), (81, _), (82, _), (83, _), (84, _), (85, _), (86, _), (87, _), (88, _), (89, _), (90, _)], _⟩ (_ :: _ :: _ :: _ :: _ :: _ :: _ :: _ :: _ :: _ :: _ :: _ :: _ :: _ :: _ :: _ :: _ :: ψ) rfl rfl ?_
              refine JL_move rfl ?_
              exact JL_nil (JE_stepV rfl ss0))), OblS_V (fun vals ex ψ => (by
              refine JL_normQ ⟨136, [(68, _), (69, _), (70, _), (71, _), (72, _), (73, _), (74, _), (75, _), (76, _), (77, _), (78, _), (79, _), (80, _), (81, _), (82, _), (83, _), (84, _), (85, _), (86, _), (87, _), (88, _), (89, _), (90, _)], _⟩ (_ :: _ :: _ :: _ :: _ :: _ :: _ :: _ :: _ :: _ :: _ :: _ :: _ :: _ :: _ :: _ :: _ :: ψ) rfl rfl ?_
              refine JL_guard_yes rfl rfl ?_
              refine JL_move rfl ?_
              exact JL_nil (JE_stepV rfl ss0))), OblS_V (fun vals ex ψ => (by
              refine JL_normQ ⟨136, [(68, _), (69, _), (70, _), (71, _), (72, _), (73, _), (74, _), (75, _), (76, _), (77, _), (78, _), (79, _), (80, _), (81, _), (82, _), (83, _), (84, _), (85, _), (86, _), (87, _), (88, _), (89, _), (90, _)], _⟩ (_ :: _ :: _ :: _ :: _ :: _ :: _ :: _ :: _ :: _ :: _ :: _ :: _ :: _ :: _ :: _ :: _ :: ψ) rfl rfl ?_
              refine JL_guard_yes rfl rfl ?_
              refine JL_neq rfl rfl ?_
              rw [decide_eq_false (p := (0 : Int) ≠ 0) (fun h => h rfl)]
              exact JL_nil (JE_stepV rfl ss0))), OblS_V (fun vals ex ψ => (by
              refine JL_normQ ⟨136, [(68, _), (69, _), (70, _), (71, _), (72, _), (73, _), (74, _), (75, _), (76, _), (77, _), (78, _), (79, _), (80, _), (81, _), (82, _), (83, _), (84, _), (85, _), (86, _), (87, _), (88, _), (89, _), (90, _)], _⟩ (_ :: _ :: _ :: _ :: _ :: _ :: _ :: _ :: _ :: _ :: _ :: _ :: _ :: _ :: _ :: _ :: _ :: ψ) rfl rfl ?_
              refine JL_pick_f rfl rfl ?_
              exact JL_nil (JE_stepV rfl ss0))), OblS_V (fun vals ex ψ => (by
              refine JL_normQ ⟨136, [(68, _), (69, _), (70, _), (71, _), (72, _), (73, _), (74, _), (75, _), (76, _), (77, _), (78, _), (79, _), (80, _), (81, _), (82, _), (83, _), (84, _), (85, _), (86, _), (87, _), (88, _), (89, _), (90, _)], _⟩ (_ :: _ :: _ :: _ :: _ :: _ :: _ :: _ :: _ :: _ :: _ :: _ :: _ :: _ :: _ :: _ :: _ :: ψ) rfl rfl ?_
              refine JL_move rfl ?_
              exact JL_nil (JE_stepV rfl ss0))), OblS_V (fun vals ex ψ => (by
              refine JL_normQ ⟨136, [(68, _), (69, _), (70, _), (71, _), (72, _), (73, _), (74, _), (75, _), (76, _), (77, _), (78, _), (79, _), (80, _), (81, _), (82, _), (83, _), (84, _), (85, _), (86, _), (87, _), (88, _), (89, _), (90, _)], _⟩ (_ :: _ :: _ :: _ :: _ :: _ :: _ :: _ :: _ :: _ :: _ :: _ :: _ :: _ :: _ :: _ :: _ :: ψ) rfl rfl ?_
              refine JL_guard_yes rfl rfl ?_
              refine JL_move rfl ?_
              exact JL_nil (JE_stepV rfl ss0))), OblS_V (fun vals ex ψ => (by
              refine JL_normQ ⟨136, [(68, _), (69, _), (70, _), (71, _), (72, _), (73, _), (74, _), (75, _), (76, _), (77, _), (78, _), (79, _), (80, _), (81, _), (82, _), (83, _), (84, _), (85, _), (86, _), (87, _), (88, _), (89, _), (90, _)], _⟩ (_ :: _ :: _ :: _ :: _ :: _ :: _ :: _ :: _ :: _ :: _ :: _ :: _ :: _ :: _ :: _ :: _ :: ψ) rfl rfl ?_
              refine JL_guard_yes rfl rfl ?_
              refine JL_move rfl ?_
              exact JL_nil (JE_stepV rfl ss0))), OblS_V (fun vals ex ψ => (by
              refine JL_normQ ⟨136, [(68, _), (69, _), (70, _), (71, _), (72, _), (73, _), (74, _), (75, _), (76, _), (77, _), (78, _), (79, _), (80, _), (81, _), (82, _), (83, _), (84, _), (85, _), (86, _), (87, _), (88, _), (89, _), (90, _)], _⟩ (_ :: _ :: _ :: _ :: _ :: _ :: _ :: _ :: _ :: _ :: _ :: _ :: _ :: _ :: _ :: _ :: _ :: ψ) rfl rfl ?_
              refine JL_guard_yes rfl rfl ?_
              refine JL_neq rfl rfl ?_
              rw [decide_eq_false (p := k ≠ k) (fun h => h rfl)]
              exact JL_nil (JE_stepV rfl ss0))), OblS_V (fun vals ex ψ => (by
              refine JL_normQ ⟨136, [(68, _), (69, _), (70, _), (71, _), (72, _), (73, _), (74, _), (75, _), (76, _), (77, _), (78, _), (79, _), (80, _), (81, _), (82, _), (83, _), (84, _), (85, _), (86, _), (87, _), (88, _), (89, _), (90, _)], _⟩ (_ :: _ :: _ :: _ :: _ :: _ :: _ :: _ :: _ :: _ :: _ :: _ :: _ :: _ :: _ :: _ :: _ :: ψ) rfl rfl ?_
              refine JL_pick_f rfl rfl ?_
              exact JL_nil (JE_stepV rfl ss0))), OblS_V (fun vals ex ψ => (by
              refine JL_normQ ⟨136, [(68, _), (69, _), (70, _), (71, _), (72, _), (73, _), (74, _), (75, _), (76, _), (77, _), (78, _), (79, _), (80, _), (81, _), (82, _), (83, _), (84, _), (85, _), (86, _), (87, _), (88, _), (89, _), (90, _)], _⟩ (_ :: _ :: _ :: _ :: _ :: _ :: _ :: _ :: _ :: _ :: _ :: _ :: _ :: _ :: _ :: _ :: _ :: ψ) rfl rfl ?_
              refine JL_move rfl ?_
              exact JL_nil (JE_stepV rfl ss0))), OblS_V (fun vals ex ψ => (by
              refine JL_normQ ⟨136, [(68, _), (69, _), (70, _), (71, _), (72, _), (73, _), (74, _), (75, _), (76, _), (77, _), (78, _), (79, _), (80, _), (81, _), (82, _), (83, _), (84, _), (85, _), (86, _), (87, _), (88, _), (89, _), (90, _)], _⟩ (_ :: _ :: _ :: _ :: _ :: _ :: _ :: _ :: _ :: _ :: _ :: _ :: _ :: _ :: _ :: _ :: _ :: ψ) rfl rfl ?_
              refine JL_guard_yes rfl rfl ?_
              refine JL_loadA (vs := [_, _, _]) 4 ty35 rfl rfl ⟨rfl, rfl, rfl, trivial⟩ ?_
              exact JL_nil (JE_stepV rfl ss0))), OblS_V (fun vals ex ψ => (by
              refine JL_normQ ⟨136, [(68, _), (69, _), (70, _), (71, _), (72, _), (73, _), (74, _), (75, _), (76, _), (77, _), (78, _), (79, _), (80, _), (81, _), (82, _), (83, _), (84, _), (85, _), (86, _), (87, _), (88, _), (89, _), (90, _)], _⟩ (_ :: _ :: _ :: _ :: _ :: _ :: _ :: _ :: _ :: _ :: _ :: _ :: _ :: _ :: _ :: _ :: _ :: ψ) rfl rfl ?_
              refine JL_guard_yes rfl rfl ?_
              refine JL_loadA (vs := [_, _, _]) 3 ty35 rfl rfl ⟨rfl, rfl, rfl, trivial⟩ ?_
              exact JL_nil (JE_stepV rfl ss0))), OblS_V (fun vals ex ψ => (by
              refine JL_normQ ⟨136, [(68, _), (69, _), (70, _), (71, _), (72, _), (73, _), (74, _), (75, _), (76, _), (77, _), (78, _), (79, _), (80, _), (81, _), (82, _), (83, _), (84, _), (85, _), (86, _), (87, _), (88, _), (89, _), (90, _)], _⟩ (_ :: _ :: _ :: _ :: _ :: _ :: _ :: _ :: _ :: _ :: _ :: _ :: _ :: _ :: _ :: _ :: _ :: ψ) rfl rfl ?_
              refine JL_guard_yes rfl rfl ?_
              refine JL_move rfl ?_
              exact JL_nil (JE_stepV rfl ss0))), OblS_C (fun vals ex ψ => (by
              refine JL_normQ ⟨136, [(68, _), (69, _), (70, _), (71, _), (72, _), (73, _), (74, _), (75, _), (76, _), (77, _), (78, _), (79, _), (80, _), (81, _), (82, _), (83, _), (84, _), (85, _), (86, _), (87, _), (88, _), (89, _), (90, _)], _⟩ (_ :: _ :: _ :: _ :: _ :: _ :: _ :: _ :: _ :: _ :: _ :: _ :: _ :: _ :: _ :: _ :: _ :: ψ) rfl rfl ?_
              refine JL_guard_yes rfl rfl ?_
              refine JL_callF' Asks.nil (fofi_con s 1 (by omega) (by omega)) rfl ca22 ⟨rfl, rfl, rfl⟩ ?_
              exact fun v φo hP => JL_nil (JE_stepC φo rfl hP (fun p hp => mapB_l hp) (fun p hp => mapB_r (ss0 p hp))))), OblS_C (fun vals ex ψ => (by
              refine JL_normQ ⟨136, [(68, _), (69, _), (70, _), (71, _), (72, _), (73, _), (74, _), (75, _), (76, _), (77, _), (78, _), (79, _), (80, _), (81, _), (82, _), (83, _), (84, _), (85, _), (86, _), (87, _), (88, _), (89, _), (90, _)], _⟩ (_ :: _ :: _ :: _ :: _ :: _ :: _ :: _ :: _ :: _ :: _ :: _ :: _ :: _ :: _ :: _ :: _ :: _ :: ψ) rfl rfl ?_
              generalize vals 15 = x83
              refine JL_usePost mm0 (fun φo hP => ?_)
              obtain ⟨ad83, cp83, be83, ce83, rfl, rfl⟩ := hP
              refine JL_norm _ _ (_ :: _ :: _ :: _ :: _ :: _ :: _ :: _ :: _ :: _ :: _ :: _ :: _ :: _ :: _ :: _ :: _ :: _ :: _ :: _ :: ψ) rfl rfl rfl ?_
              refine JL_guard_yes rfl rfl ?_
              refine JL_callF' (Asks.cons (by first | exact holds_of_mem (by repeat (first | with_reducible exact mm0 | refine mmS ?_)) | (exact holds_of_own 2 rfl)) (Asks.cons (by first | exact holds_of_mem (by repeat (first | with_reducible exact mm0 | refine mmS ?_)) | (exact holds_of_own 2 rfl)) (Asks.cons (by first | exact holds_of_mem (by repeat (first | with_reducible exact mm0 | refine mmS ?_)) | (exact holds_of_own 2 rfl)) (Asks.cons (by first | exact holds_of_mem (by repeat (first | with_reducible exact mm0 | refine mmS ?_)) | (exact holds_of_own 2 rfl)) Asks.nil)))) (fmulq_con (FIn.some (hqr.mono (by decide))) (FIn.some (hqs.mono (by decide)))) rfl ca21 ⟨rfl, rfl, rfl⟩ ?_
              exact fun v φo hP => JL_nil (JE_stepC φo rfl hP (fun p hp => mapB_l hp) (fun p hp => mapB_r ((ssS (ssS ss0)) p hp))))), OblS_C (fun vals ex ψ => (by
              refine JL_normQ ⟨136, [(68, _), (69, _), (70, _), (71, _), (72, _), (73, _), (74, _), (75, _), (76, _), (77, _), (78, _), (79, _), (80, _), (81, _), (82, _), (83, _), (84, _), (85, _), (86, _), (87, _), (88, _), (89, _), (90, _)], _⟩ (_ :: _ :: _ :: _ :: _ :: _ :: _ :: _ :: _ :: _ :: _ :: _ :: _ :: _ :: _ :: _ :: _ :: _ :: ψ) rfl rfl ?_
              generalize vals 16 = x84
              refine JL_usePost mm0 (fun φo hP => ?_)
              obtain ⟨ad84, cp84, be84, ce84, rfl, rfl⟩ := hP
              refine JL_norm _ _ (_ :: _ :: _ :: _ :: _ :: _ :: _ :: _ :: _ :: _ :: _ :: _ :: _ :: _ :: _ :: _ :: _ :: _ :: _ :: _ :: ψ) rfl rfl rfl ?_
              refine JL_guard_yes rfl rfl ?_
              refine JL_callF' (Asks.cons (by first | exact holds_of_mem (by repeat (first | with_reducible exact mm0 | refine mmS ?_)) | (exact holds_of_own 2 rfl)) (Asks.cons (by first | exact holds_of_mem (by repeat (first | with_reducible exact mm0 | refine mmS ?_)) | (exact holds_of_own 2 rfl)) (Asks.cons (by first | exact holds_of_mem (by repeat (first | with_reducible exact mm0 | refine mmS ?_)) | (exact holds_of_own 2 rfl)) (Asks.cons (by first | exact holds_of_mem (by repeat (first | with_reducible exact mm0 | refine mmS ?_)) | (exact holds_of_own 2 rfl)) Asks.nil)))) (fcmpq_con (FIn.some (hqrs.mono (by decide))) (FIn.some (hqrs.mono (by decide)))) rfl ca23 ⟨rfl, rfl, rfl⟩ ?_
              exact fun v φo hP => JL_nil (JE_stepC φo rfl hP (fun p hp => mapB_l hp) (fun p hp => mapB_r ((ssS (ssS ss0)) p hp))))), OblS_V (fun vals ex ψ => (by
              refine JL_normQ ⟨136, [(68, _), (69, _), (70, _), (71, _), (72, _), (73, _), (74, _), (75, _), (76, _), (77, _), (78, _), (79, _), (80, _), (81, _), (82, _), (83, _), (84, _), (85, _), (86, _), (87, _), (88, _), (89, _), (90, _)], _⟩ (_ :: _ :: _ :: _ :: _ :: _ :: _ :: _ :: _ :: _ :: _ :: _ :: _ :: _ :: _ :: _ :: _ :: _ :: ψ) rfl rfl ?_
              generalize vals 17 = x85
              refine JL_usePost mm0 (fun φo hP => ?_)
              obtain ⟨rfl, rfl⟩ := hP
              refine JL_norm _ _ (_ :: _ :: _ :: _ :: _ :: _ :: _ :: _ :: _ :: _ :: _ :: _ :: _ :: _ :: _ :: _ :: _ :: _ :: ψ) rfl rfl rfl ?_
              refine JL_guard_yes rfl rfl ?_
              refine JL_neq rfl rfl ?_
              rw [decide_eq_false (p := cmpQ (r * ofq s 1) (r * ofq s 1) ≠ 0) (fun h => h (cmpQ_zero.2 rfl))]
              exact JL_nil (JE_stepV rfl ss0))), OblS_V (fun vals ex ψ => (by
              refine JL_normQ ⟨136, [(68, _), (69, _), (70, _), (71, _), (72, _), (73, _), (74, _), (75, _), (76, _), (77, _), (78, _), (79, _), (80, _), (81, _), (82, _), (83, _), (84, _), (85, _), (86, _), (87, _), (88, _), (89, _), (90, _)], _⟩ (_ :: _ :: _ :: _ :: _ :: _ :: _ :: _ :: _ :: _ :: _ :: _ :: _ :: _ :: _ :: _ :: _ :: ψ) rfl rfl ?_
              refine JL_pick_f rfl rfl ?_
              exact JL_nil (JE_stepV rfl ss0))), OblS_V (fun vals ex ψ => (by
              refine JL_normQ ⟨136, [(68, _), (69, _), (70, _), (71, _), (72, _), (73, _), (74, _), (75, _), (76, _), (77, _), (78, _), (79, _), (80, _), (81, _), (82, _), (83, _), (84, _), (85, _), (86, _), (87, _), (88, _), (89, _), (90, _)], _⟩ (_ :: _ :: _ :: _ :: _ :: _ :: _ :: _ :: _ :: _ :: _ :: _ :: _ :: _ :: _ :: _ :: _ :: ψ) rfl rfl ?_
              refine JL_move rfl ?_
              exact JL_nil (JE_stepV rfl ss0))), OblS_V (fun vals ex ψ => (by
              refine JL_normQ ⟨136, [(68, _), (69, _), (70, _), (71, _), (72, _), (73, _), (74, _), (75, _), (76, _), (77, _), (78, _), (79, _), (80, _), (81, _), (82, _), (83, _), (84, _), (85, _), (86, _), (87, _), (88, _), (89, _), (90, _)], _⟩ (_ :: _ :: _ :: _ :: _ :: _ :: _ :: _ :: _ :: _ :: _ :: _ :: _ :: _ :: _ :: _ :: _ :: ψ) rfl rfl ?_
              refine JL_guard_yes rfl rfl ?_
              refine JL_move rfl ?_
              exact JL_nil (JE_stepV rfl ss0))), OblS_V (fun vals ex ψ => (by
              refine JL_normQ ⟨136, [(68, _), (69, _), (70, _), (71, _), (72, _), (73, _), (74, _), (75, _), (76, _), (77, _), (78, _), (79, _), (80, _), (81, _), (82, _), (83, _), (84, _), (85, _), (86, _), (87, _), (88, _), (89, _), (90, _)], _⟩ (_ :: _ :: _ :: _ :: _ :: _ :: _ :: _ :: _ :: _ :: _ :: _ :: _ :: _ :: _ :: _ :: _ :: ψ) rfl rfl ?_
              refine JL_guard_yes rfl rfl ?_
              refine JL_move rfl ?_
              exact JL_nil (JE_stepV rfl ss0))), trivial⟩ (by kernel_rfl) (fun vals bs => ?_)
          refine JL_normL [_, _, _] ⟨136, [(68, _), (69, _), (70, _), (71, _), (72, _), (73, _), (74, _), (75, _), (76, _), (77, _), (78, _), (79, _), (80, _), (81, _), (82, _), (83, _), (84, _), (85, _), (86, _), (87, _), (88, _), (89, _), (90, _)], _⟩ [box _ _ [_, _, _], box _ _ [_, _], osl _ _ _ _ _ _, box _ _ [_, _, _], box _ _ [_, _, _]] [_, _, _, _, _, _, _, _, _, _, _, _, _, _, _, _, _, _, _, _] rfl rfl rfl rfl ?_
          generalize vals (0 + 1 + 1 + 1 + 1 + 1 + 1 + 1 + 1 + 1 + 1 + 1 + 1 + 1 + 1 + 1) = x83
          generalize vals (0 + 1 + 1 + 1 + 1 + 1 + 1 + 1 + 1 + 1 + 1 + 1 + 1 + 1 + 1 + 1 + 1) = x84
          generalize vals (0 + 1 + 1 + 1 + 1 + 1 + 1 + 1 + 1 + 1 + 1 + 1 + 1 + 1 + 1 + 1 + 1 + 1) = x85
          refine JL_guard_yes rfl rfl ?_
          refine JL_callF' Asks.nil (binT_con ⟨hk, hk2⟩) rfl ca17 ⟨rfl, rfl, rfl, rfl⟩ ?_
          rintro _ _ ⟨rfl, rfl⟩
          refine JL_guard_yes rfl rfl ?_
          refine JL_not rfl ?_
          rw [Bool.not_true]
          refine JL_pick_f rfl rfl ?_
          refine JL_done_up 136 [box _ _ [_, _, _], box _ _ [_, _], osl _ _ _ _ _ _, box _ _ [_, _, _], box _ _ [_, _, _]] [_, _, _, _, _, _, _, _, _, _, _, _, _, _, _, _, _, _, _, _] rfl rfl (by simp only [nrmF]; rfl) rfl rfl ?_
          refine JC_false rfl ?_
          refine JC_skip ?_
          refine JE_then ?_
          refine JC_seq ?_
          refine JC_drawT mixed 8 [spV 94 [] _, spC 95 [0] _, spV 96 [] _, spC 97 [2] _, spV 98 [] _, spC 99 [3, 4] _, spC 100 [1, 5] _, spA 15 35 [.bool false, .slice none 0 0, .slice none 0 0]] ⟨OblS_V (fun vals ex ψ => (by
              refine JL_normQ ⟨136, [(94, _), (95, _), (96, _), (97, _), (98, _), (99, _), (100, _), (15, _)], _⟩ (_ :: _ :: _ :: _ :: _ :: _ :: _ :: _ :: _ :: _ :: _ :: _ :: _ :: _ :: _ :: _ :: _ :: _ :: _ :: _ :: ψ) rfl rfl ?_
              refine JL_move rfl ?_
              exact JL_nil (JE_stepV rfl ss0))), OblS_C (fun vals ex ψ => (by
              refine JL_normQ ⟨136, [(94, _), (95, _), (96, _), (97, _), (98, _), (99, _), (100, _), (15, _)], _⟩ (_ :: _ :: _ :: _ :: _ :: _ :: _ :: _ :: _ :: _ :: _ :: _ :: _ :: _ :: _ :: _ :: _ :: _ :: _ :: _ :: ψ) rfl rfl ?_
              refine JL_callF' Asks.nil (fofi_con w 1 (by omega) (by omega)) rfl ca22 ⟨rfl, rfl, rfl⟩ ?_
              exact fun v φo hP => JL_nil (JE_stepC φo rfl hP (fun p hp => mapB_l hp) (fun p hp => mapB_r (ss0 p hp))))), OblS_V (fun vals ex ψ => (by
              refine JL_normQ ⟨136, [(94, _), (95, _), (96, _), (97, _), (98, _), (99, _), (100, _), (15, _)], _⟩ (_ :: _ :: _ :: _ :: _ :: _ :: _ :: _ :: _ :: _ :: _ :: _ :: _ :: _ :: _ :: _ :: _ :: _ :: _ :: _ :: ψ) rfl rfl ?_
              refine JL_move rfl ?_
              exact JL_nil (JE_stepV rfl ss0))), OblS_C (fun vals ex ψ => (by
              refine JL_normQ ⟨136, [(94, _), (95, _), (96, _), (97, _), (98, _), (99, _), (100, _), (15, _)], _⟩ (_ :: _ :: _ :: _ :: _ :: _ :: _ :: _ :: _ :: _ :: _ :: _ :: _ :: _ :: _ :: _ :: _ :: _ :: _ :: _ :: ψ) rfl rfl ?_
              refine JL_callF' Asks.nil (fofi_con k 1 (by omega) (by omega)) rfl ca22 ⟨rfl, rfl, rfl⟩ ?_
              exact fun v φo hP => JL_nil (JE_stepC φo rfl hP (fun p hp => mapB_l hp) (fun p hp => mapB_r (ss0 p hp))))), OblS_V (fun vals ex ψ => (by
              refine JL_normQ ⟨136, [(94, _), (95, _), (96, _), (97, _), (98, _), (99, _), (100, _), (15, _)], _⟩ (_ :: _ :: _ :: _ :: _ :: _ :: _ :: _ :: _ :: _ :: _ :: _ :: _ :: _ :: _ :: _ :: _ :: _ :: _ :: _ :: ψ) rfl rfl ?_
              refine JL_loadA (vs := [_, _, _]) 0 ty35 rfl rfl ⟨rfl, rfl, rfl, trivial⟩ ?_
              exact JL_nil (JE_stepV rfl ss0))), OblS_C (fun vals ex ψ => (by
              refine JL_normQ ⟨136, [(94, _), (95, _), (96, _), (97, _), (98, _), (99, _), (100, _), (15, _)], _⟩ (_ :: _ :: _ :: _ :: _ :: _ :: _ :: _ :: _ :: _ :: _ :: _ :: _ :: _ :: _ :: _ :: _ :: _ :: _ :: _ :: _ :: ψ) rfl rfl ?_
              generalize vals 3 = x97
              refine JL_usePost mm0 (fun φo hP => ?_)
              obtain ⟨ad97, cp97, be97, ce97, rfl, rfl⟩ := hP
              refine JL_norm _ _ (_ :: _ :: _ :: _ :: _ :: _ :: _ :: _ :: _ :: _ :: _ :: _ :: _ :: _ :: _ :: _ :: _ :: _ :: _ :: _ :: _ :: _ :: _ :: ψ) rfl rfl rfl ?_
              refine JL_callF' (Asks.cons (by first | exact holds_of_mem (by repeat (first | with_reducible exact mm0 | refine mmS ?_)) | (exact holds_of_own 2 rfl)) (Asks.cons (by first | exact holds_of_mem (by repeat (first | with_reducible exact mm0 | refine mmS ?_)) | (exact holds_of_own 2 rfl)) (Asks.cons (by first | exact holds_of_mem (by repeat (first | with_reducible exact mm0 | refine mmS ?_)) | (exact holds_of_own 2 rfl)) (Asks.cons (by first | exact holds_of_mem (by repeat (first | with_reducible exact mm0 | refine mmS ?_)) | (exact holds_of_own 2 rfl)) Asks.nil)))) (fmulq_con (FIn.some (hqk.mono (by decide))) (g1.mono (by decide))) rfl ca21 ⟨rfl, rfl, rfl⟩ ?_
              exact fun v φo hP => JL_nil (JE_stepC φo rfl hP (fun p hp => mapB_l hp) (fun p hp => mapB_r ((ssS (ssS ss0)) p hp))))), OblS_C (fun vals ex ψ => (by
              refine JL_normQ ⟨136, [(94, _), (95, _), (96, _), (97, _), (98, _), (99, _), (100, _), (15, _)], _⟩ (_ :: _ :: _ :: _ :: _ :: _ :: _ :: _ :: _ :: _ :: _ :: _ :: _ :: _ :: _ :: _ :: _ :: _ :: _ :: _ :: _ :: _ :: ψ) rfl rfl ?_
              generalize vals 1 = x95
              refine JL_usePost mm0 (fun φo hP => ?_)
              obtain ⟨ad95, cp95, be95, ce95, rfl, rfl⟩ := hP
              refine JL_norm _ _ (_ :: _ :: _ :: _ :: _ :: _ :: _ :: _ :: _ :: _ :: _ :: _ :: _ :: _ :: _ :: _ :: _ :: _ :: _ :: _ :: _ :: _ :: _ :: _ :: ψ) rfl rfl rfl ?_
              generalize vals 5 = x99
              refine JL_usePost (mmS (mmS (mmS mm0))) (fun φo hP => ?_)
              obtain ⟨ad99, cp99, be99, ce99, rfl, rfl⟩ := hP
              refine JL_norm _ _ (_ :: _ :: _ :: _ :: _ :: _ :: _ :: _ :: _ :: _ :: _ :: _ :: _ :: _ :: _ :: _ :: _ :: _ :: _ :: _ :: _ :: _ :: _ :: _ :: _ :: _ :: ψ) rfl rfl rfl ?_
              refine JL_callF' (Asks.cons (by first | exact holds_of_mem (by repeat (first | with_reducible exact mm0 | refine mmS ?_)) | (exact holds_of_own 2 rfl)) (Asks.cons (by first | exact holds_of_mem (by repeat (first | with_reducible exact mm0 | refine mmS ?_)) | (exact holds_of_own 2 rfl)) (Asks.cons (by first | exact holds_of_mem (by repeat (first | with_reducible exact mm0 | refine mmS ?_)) | (exact holds_of_own 2 rfl)) (Asks.cons (by first | exact holds_of_mem (by repeat (first | with_reducible exact mm0 | refine mmS ?_)) | (exact holds_of_own 2 rfl)) Asks.nil)))) (fsubq_con (FIn.some (hqw.mono (by decide))) (FIn.some (hqku.mono (by decide)))) rfl ca24 ⟨rfl, rfl, rfl⟩ ?_
              exact fun v φo hP => JL_nil (JE_stepC φo rfl hP (fun p hp => mapB_l hp) (fun p hp => mapB_r ((ssS (ssS (ssS (ssS ss0)))) p hp))))), OblS_al rfl z35, trivial⟩ (by kernel_rfl) (fun vals bs => ?_)
          refine JL_normL [_] ⟨136, [(94, _), (95, _), (96, _), (97, _), (98, _), (99, _), (100, _), (15, _)], _⟩ [box _ _ [_, _, _], box _ _ [_, _], osl _ _ _ _ _ _, box _ _ [_, _, _], box _ _ [_, _, _], box _ _ [_, _, _]] [_, _, _, _, _, _, _, _, _, _, _, _, _, _, _, _, _, _, _, _, _, _, _, _] rfl rfl rfl rfl ?_
          generalize vals (0 + 1) = x95
          generalize vals (0 + 1 + 1 + 1) = x97
          generalize vals (0 + 1 + 1 + 1 + 1 + 1) = x99
          generalize vals (0 + 1 + 1 + 1 + 1 + 1 + 1) = x100
          generalize bs (0 + 1 + 1 + 1 + 1 + 1 + 1 + 1) = b15
          refine JL_usePost (mmS (mmS (mmS mm0))) (fun φo hP => ?_)
          obtain ⟨ad100, cp100, be100, ce100, rfl, rfl⟩ := hP
          refine JL_norm _ [box _ _ [_, _, _], box _ _ [_, _], osl _ _ _ _ _ _, box _ _ [_, _, _], box _ _ [_, _, _], box _ _ [_, _, _]] [_, _, _, _, _, _, _, _, _, _, _, _, _, _, _, _, _, _, _, _, _, _, _, _, _, _] rfl rfl rfl ?_
          refine JL_store (vs := [_, _, _]) 5 ty35 rfl rfl rfl (AllOne.cons rfl (AllOne.cons rfl (AllOne.cons rfl AllOne.nil))) rfl (Nat.le_of_ble_eq_true rfl) ?_
          refine JL_done_up 136 [box _ _ [_, _, _], box _ _ [_, _], osl _ _ _ _ _ _, box _ _ [_, _, _], box _ _ [_, _, _], box _ _ [_, _, _]] [_, _, _, _, _, _, _, _, _, _, _, _, _, _, _, _, _, _, _, _, _, _, _, _, _, _] rfl rfl (by simp only [nrmF]; rfl) rfl rfl ?_
          refine JC_seq ?_
          rw [show ofq w 1 - ofq k 1 * q1 = r from hN.eq.symm]
          refine JC_region ?_
          refine JL_loadA (vs := [_, _, _]) 5 ty35 rfl rfl ⟨rfl, rfl, rfl, trivial⟩ ?_
          refine JL_loadA (vs := [_, _, _]) 5 ty35 rfl rfl ⟨rfl, rfl, rfl, trivial⟩ ?_
          refine JL_callF' (Asks.cons (by first | exact holds_of_mem (by repeat (first | with_reducible exact mm0 | refine mmS ?_)) | (exact holds_of_own 2 rfl)) (Asks.cons (by first | exact holds_of_mem (by repeat (first | with_reducible exact mm0 | refine mmS ?_)) | (exact holds_of_own 2 rfl)) (Asks.cons (by first | exact holds_of_mem (by repeat (first | with_reducible exact mm0 | refine mmS ?_)) | (exact holds_of_own 2 rfl)) (Asks.cons (by first | exact holds_of_mem (by repeat (first | with_reducible exact mm0 | refine mmS ?_)) | (exact holds_of_own 2 rfl)) Asks.nil)))) (fmulq_con (FIn.some (hqr.mono (by decide))) (FIn.some (hqr.mono (by decide)))) rfl ca21 ⟨rfl, rfl, rfl⟩ ?_
          rintro _ _ ⟨ad103, cp103, be103, ce103, rfl, rfl⟩
          refine JL_alloc z35 (fun b16 => ?_)
          refine JL_store (vs := [_, _, _]) 6 ty35 rfl rfl rfl (AllOne.cons rfl (AllOne.cons rfl (AllOne.cons rfl AllOne.nil))) rfl (Nat.le_of_ble_eq_true rfl) ?_
          refine JL_done_up 136 [box _ _ [_, _, _], box _ _ [_, _], osl _ _ _ _ _ _, box _ _ [_, _, _], box _ _ [_, _, _], box _ _ [_, _, _], box _ _ [_, _, _]] [_, _, _, _, _, _, _, _, _, _, _, _, _, _, _, _, _, _, _, _, _, _, _, _, _, _, _, _] rfl rfl (by simp only [nrmF]; rfl) rfl rfl ?_
          refine JC_seq ?_
          refine JC_seq ?_
          refine JC_region ?_
          refine JL_assign rfl ?_
          refine JL_done_up 136 [box _ _ [_, _, _], box _ _ [_, _], osl _ _ _ _ _ _, box _ _ [_, _, _], box _ _ [_, _, _], box _ _ [_, _, _], box _ _ [_, _, _]] [_, _, _, _, _, _, _, _, _, _, _, _, _, _, _, _, _, _, _, _, _, _, _, _, _, _, _, _] rfl rfl (by simp only [nrmF]; rfl) rfl rfl ?_
          refine JC_block ?_
          refine JC_loopS ((Nat)) (fun (j : Nat) => 1 ≤ j ∧ (j : Int) ≤ M + 1) (fun (j : Nat) => M.toNat + 1 - j) (fun u (j : Nat) => [none, none, none, none, none, none, some (u 6), none, none, none, none, none, none, none, none, none, none, some (.int .i64 (j : Nat)), some (u 18), some (u 19), none, none, none, none, none, none, none, none, none, none, none, none, none, none, none, none, none, none, none, none, none, none, none, none, none, none, none, none, none, none, none, none, none, none, none, none, none, none, none, none, none, none, none, none, none, none, none, none, none, none, none, none, none, none, none, none, none, none, none, none, none, none, none, none, none, none, none, none, none, none, none, none, none, none, none, none, none, none, none, none, none, none, none, none, some (u 104), some (u 105), some (u 106), some (u 107), some (u 108), some (u 109), some (u 110), some (u 111), some (u 112), some (u 113), some (u 114), some (u 115), some (u 116), some (u 117), some (u 118), some (u 119), some (u 120), some (u 121), some (u 122), some (u 123), some (u 124), some (u 125), some (u 126), some (u 127), some (u 128), some (u 129), some (u 130), some (u 131), none, none, none, none]) (fun (j : Nat) => [none, none, none, none, none, none, none]) (fun (j : Nat) => []) (1) (by kernel_rfl) ?_ (by kernel_rfl) ?_ ?_
          · exact ⟨Nat.le_refl _, by omega⟩
          · exact subset_nil
          intro u j hC
          obtain ⟨hj1, hj2⟩ := hC
          refine JC_norm ⟨136, [], [_, _, _, _, _, _, _, _, _, _, _, _, _, _, _, _, _, _, _, _, _, _, _, _, _, _, _, _, _, _, _, _, _, _, _, _, _, _, _, _, _, _, _, _, _, _, _, _, _, _, _, _, _, _, _, _, _, _, _, _, _, _, _, _, _, _, _, _, _, _, _, _, _, _, _, _, _, _, _, _, _, _, _, _, _, _, _, _, _, _, _, _, _, _, _, _, _, _, _, _, _, _, _, _, _, _, _, _, _, _, _, _, _, _, _, _, _, _, _, _, _, _, _, _, _, _, _, _, _, _, _, _, _, _, _, _]⟩ [box _ _ [_, _, _], box _ _ [_, _], osl _ _ _ _ _ _, box _ _ [_, _, _], box _ _ [_, _, _], box _ _ [_, _, _], box _ _ [_, _, _]] [_, _, _, _, _, _, _, _, _, _, _, _, _, _, _, _, _, _, _, _, _, _, _, _, _, _, _, _] rfl rfl rfl ?_
          refine JC_seq ?_
          refine JC_seq ?_
          refine JC_region ?_
          refine JL_move rfl ?_
          refine JL_move rfl ?_
          refine JL_leq rfl rfl ?_
          refine JL_split (fun h106 => ?_) (fun h106 => ?_)
          · refine JL_done_up 136 [box _ _ [_, _, _], box _ _ [_, _], osl _ _ _ _ _ _, box _ _ [_, _, _], box _ _ [_, _, _], box _ _ [_, _, _], box _ _ [_, _, _]] [_, _, _, _, _, _, _, _, _, _, _, _, _, _, _, _, _, _, _, _, _, _, _, _, _, _, _, _] rfl rfl (by simp only [nrmF]; rfl) rfl rfl ?_
            refine JC_true rfl ?_
            refine JC_skip ?_
            refine JE_then ?_
            refine JC_seq ?_
            refine JC_block ?_
            refine JC_seq ?_
            have hqj : qs (ofq ((j : Nat) : Int) 1) 3 := qs_ofi (by omega)
            have hqju : qs (ofq ((j : Nat) : Int) 1 * q1) 7 := hqj.mul hq3 (Nat.le_refl 7)
            have hqX : qs (ofq w 1 - ofq ((j : Nat) : Int) 1 * q1) 12 := hqw.sub hqju (by decide)
            have hqXX : qs ((ofq w 1 - ofq ((j : Nat) : Int) 1 * q1) * (ofq w 1 - ofq ((j : Nat) : Int) 1 * q1)) 24 := hqX.mul hqX (Nat.le_refl 24)
            obtain ⟨hle, hst⟩ := near_sq hN (j := ((j : Nat) : Int)) (by omega) (by omega)
            refine JC_drawT mixed 8 [spV 109 [] _, spC 110 [0] _, spV 111 [] _, spC 112 [2] _, spV 113 [] _, spC 114 [3, 4] _, spC 115 [1, 5] _, spA 18 35 [.bool false, .slice none 0 0, .slice none 0 0]] ⟨OblS_V (fun vals ex ψ => (by
                refine JL_normQ ⟨136, [(109, _), (110, _), (111, _), (112, _), (113, _), (114, _), (115, _), (18, _)], _⟩ (_ :: _ :: _ :: _ :: _ :: _ :: _ :: _ :: _ :: _ :: _ :: _ :: _ :: _ :: _ :: _ :: _ :: _ :: _ :: _ :: _ :: _ :: _ :: _ :: _ :: _ :: _ :: _ :: ψ) rfl rfl ?_
                refine JL_move rfl ?_
                exact JL_nil (JE_stepV rfl ss0))), OblS_C (fun vals ex ψ => (by
                refine JL_normQ ⟨136, [(109, _), (110, _), (111, _), (112, _), (113, _), (114, _), (115, _), (18, _)], _⟩ (_ :: _ :: _ :: _ :: _ :: _ :: _ :: _ :: _ :: _ :: _ :: _ :: _ :: _ :: _ :: _ :: _ :: _ :: _ :: _ :: _ :: _ :: _ :: _ :: _ :: _ :: _ :: _ :: ψ) rfl rfl ?_
                refine JL_callF' Asks.nil (fofi_con w 1 (by omega) (by omega)) rfl ca22 ⟨rfl, rfl, rfl⟩ ?_
                exact fun v φo hP => JL_nil (JE_stepC φo rfl hP (fun p hp => mapB_l hp) (fun p hp => mapB_r (ss0 p hp))))), OblS_V (fun vals ex ψ => (by
                refine JL_normQ ⟨136, [(109, _), (110, _), (111, _), (112, _), (113, _), (114, _), (115, _), (18, _)], _⟩ (_ :: _ :: _ :: _ :: _ :: _ :: _ :: _ :: _ :: _ :: _ :: _ :: _ :: _ :: _ :: _ :: _ :: _ :: _ :: _ :: _ :: _ :: _ :: _ :: _ :: _ :: _ :: _ :: ψ) rfl rfl ?_
                refine JL_move rfl ?_
                exact JL_nil (JE_stepV rfl ss0))), OblS_C (fun vals ex ψ => (by
                refine JL_normQ ⟨136, [(109, _), (110, _), (111, _), (112, _), (113, _), (114, _), (115, _), (18, _)], _⟩ (_ :: _ :: _ :: _ :: _ :: _ :: _ :: _ :: _ :: _ :: _ :: _ :: _ :: _ :: _ :: _ :: _ :: _ :: _ :: _ :: _ :: _ :: _ :: _ :: _ :: _ :: _ :: _ :: ψ) rfl rfl ?_
                refine JL_callF' Asks.nil (fofi_con ((j : Nat) : Int) 1 (by omega) (by omega)) rfl ca22 ⟨rfl, rfl, rfl⟩ ?_
                exact fun v φo hP => JL_nil (JE_stepC φo rfl hP (fun p hp => mapB_l hp) (fun p hp => mapB_r (ss0 p hp))))), OblS_V (fun vals ex ψ => (by
                refine JL_normQ ⟨136, [(109, _), (110, _), (111, _), (112, _), (113, _), (114, _), (115, _), (18, _)], _⟩ (_ :: _ :: _ :: _ :: _ :: _ :: _ :: _ :: _ :: _ :: _ :: _ :: _ :: _ :: _ :: _ :: _ :: _ :: _ :: _ :: _ :: _ :: _ :: _ :: _ :: _ :: _ :: _ :: ψ) rfl rfl ?_
                refine JL_loadA (vs := [_, _, _]) 0 ty35 rfl rfl ⟨rfl, rfl, rfl, trivial⟩ ?_
                exact JL_nil (JE_stepV rfl ss0))), OblS_C (fun vals ex ψ => (by
                refine JL_normQ ⟨136, [(109, _), (110, _), (111, _), (112, _), (113, _), (114, _), (115, _), (18, _)], _⟩ (_ :: _ :: _ :: _ :: _ :: _ :: _ :: _ :: _ :: _ :: _ :: _ :: _ :: _ :: _ :: _ :: _ :: _ :: _ :: _ :: _ :: _ :: _ :: _ :: _ :: _ :: _ :: _ :: _ :: ψ) rfl rfl ?_
                generalize vals 3 = x112
                refine JL_usePost mm0 (fun φo hP => ?_)
                obtain ⟨ad112, cp112, be112, ce112, rfl, rfl⟩ := hP
                refine JL_norm _ _ (_ :: _ :: _ :: _ :: _ :: _ :: _ :: _ :: _ :: _ :: _ :: _ :: _ :: _ :: _ :: _ :: _ :: _ :: _ :: _ :: _ :: _ :: _ :: _ :: _ :: _ :: _ :: _ :: _ :: _ :: _ :: ψ) rfl rfl rfl ?_
                refine JL_callF' (Asks.cons (by first | exact holds_of_mem (by repeat (first | with_reducible exact mm0 | refine mmS ?_)) | (exact holds_of_own 2 rfl)) (Asks.cons (by first | exact holds_of_mem (by repeat (first | with_reducible exact mm0 | refine mmS ?_)) | (exact holds_of_own 2 rfl)) (Asks.cons (by first | exact holds_of_mem (by repeat (first | with_reducible exact mm0 | refine mmS ?_)) | (exact holds_of_own 2 rfl)) (Asks.cons (by first | exact holds_of_mem (by repeat (first | with_reducible exact mm0 | refine mmS ?_)) | (exact holds_of_own 2 rfl)) Asks.nil)))) (fmulq_con (FIn.some (hqj.mono (by decide))) (g1.mono (by decide))) rfl ca21 ⟨rfl, rfl, rfl⟩ ?_
                exact fun v φo hP => JL_nil (JE_stepC φo rfl hP (fun p hp => mapB_l hp) (fun p hp => mapB_r ((ssS (ssS ss0)) p hp))))), OblS_C (fun vals ex ψ => (by
                refine JL_normQ ⟨136, [(109, _), (110, _), (111, _), (112, _), (113, _), (114, _), (115, _), (18, _)], _⟩ (_ :: _ :: _ :: _ :: _ :: _ :: _ :: _ :: _ :: _ :: _ :: _ :: _ :: _ :: _ :: _ :: _ :: _ :: _ :: _ :: _ :: _ :: _ :: _ :: _ :: _ :: _ :: _ :: _ :: _ :: ψ) rfl rfl ?_
                generalize vals 1 = x110
                refine JL_usePost mm0 (fun φo hP => ?_)
                obtain ⟨ad110, cp110, be110, ce110, rfl, rfl⟩ := hP
                refine JL_norm _ _ (_ :: _ :: _ :: _ :: _ :: _ :: _ :: _ :: _ :: _ :: _ :: _ :: _ :: _ :: _ :: _ :: _ :: _ :: _ :: _ :: _ :: _ :: _ :: _ :: _ :: _ :: _ :: _ :: _ :: _ :: _ :: _ :: ψ) rfl rfl rfl ?_
                generalize vals 5 = x114
                refine JL_usePost (mmS (mmS (mmS mm0))) (fun φo hP => ?_)
                obtain ⟨ad114, cp114, be114, ce114, rfl, rfl⟩ := hP
                refine JL_norm _ _ (_ :: _ :: _ :: _ :: _ :: _ :: _ :: _ :: _ :: _ :: _ :: _ :: _ :: _ :: _ :: _ :: _ :: _ :: _ :: _ :: _ :: _ :: _ :: _ :: _ :: _ :: _ :: _ :: _ :: _ :: _ :: _ :: _ :: _ :: ψ) rfl rfl rfl ?_
                refine JL_callF' (Asks.cons (by first | exact holds_of_mem (by repeat (first | with_reducible exact mm0 | refine mmS ?_)) | (exact holds_of_own 2 rfl)) (Asks.cons (by first | exact holds_of_mem (by repeat (first | with_reducible exact mm0 | refine mmS ?_)) | (exact holds_of_own 2 rfl)) (Asks.cons (by first | exact holds_of_mem (by repeat (first | with_reducible exact mm0 | refine mmS ?_)) | (exact holds_of_own 2 rfl)) (Asks.cons (by first | exact holds_of_mem (by repeat (first | with_reducible exact mm0 | refine mmS ?_)) | (exact holds_of_own 2 rfl)) Asks.nil)))) (fsubq_con (FIn.some (hqw.mono (by decide))) (FIn.some (hqju.mono (by decide)))) rfl ca24 ⟨rfl, rfl, rfl⟩ ?_
                exact fun v φo hP => JL_nil (JE_stepC φo rfl hP (fun p hp => mapB_l hp) (fun p hp => mapB_r ((ssS (ssS (ssS (ssS ss0)))) p hp))))), OblS_al rfl z35, trivial⟩ (by kernel_rfl) (fun vals bs => ?_)
            refine JL_normL [_] ⟨136, [(109, _), (110, _), (111, _), (112, _), (113, _), (114, _), (115, _), (18, _)], _⟩ [box _ _ [_, _, _], box _ _ [_, _], osl _ _ _ _ _ _, box _ _ [_, _, _], box _ _ [_, _, _], box _ _ [_, _, _], box _ _ [_, _, _], box _ _ [_, _, _]] [_, _, _, _, _, _, _, _, _, _, _, _, _, _, _, _, _, _, _, _, _, _, _, _, _, _, _, _, _, _, _, _] rfl rfl rfl rfl ?_
            generalize vals (0 + 1) = x110
            generalize vals (0 + 1 + 1 + 1) = x112
            generalize vals (0 + 1 + 1 + 1 + 1 + 1) = x114
            generalize vals (0 + 1 + 1 + 1 + 1 + 1 + 1) = x115
            generalize bs (0 + 1 + 1 + 1 + 1 + 1 + 1 + 1) = b18
            refine JL_usePost (mmS (mmS (mmS mm0))) (fun φo hP => ?_)
            obtain ⟨ad115, cp115, be115, ce115, rfl, rfl⟩ := hP
            refine JL_norm _ [box _ _ [_, _, _], box _ _ [_, _], osl _ _ _ _ _ _, box _ _ [_, _, _], box _ _ [_, _, _], box _ _ [_, _, _], box _ _ [_, _, _], box _ _ [_, _, _]] [_, _, _, _, _, _, _, _, _, _, _, _, _, _, _, _, _, _, _, _, _, _, _, _, _, _, _, _, _, _, _, _, _, _] rfl rfl rfl ?_
            refine JL_store (vs := [_, _, _]) 7 ty35 rfl rfl rfl (AllOne.cons rfl (AllOne.cons rfl (AllOne.cons rfl AllOne.nil))) rfl (Nat.le_of_ble_eq_true rfl) ?_
            refine JL_done_up 136 [box _ _ [_, _, _], box _ _ [_, _], osl _ _ _ _ _ _, box _ _ [_, _, _], box _ _ [_, _, _], box _ _ [_, _, _], box _ _ [_, _, _], box _ _ [_, _, _]] [_, _, _, _, _, _, _, _, _, _, _, _, _, _, _, _, _, _, _, _, _, _, _, _, _, _, _, _, _, _, _, _, _, _] rfl rfl (by simp only [nrmF]; rfl) rfl rfl ?_
            refine JC_seq ?_
            refine JC_drawT mixed 4 [spV 116 [] _, spV 117 [] _, spC 118 [0, 1] _, spV 119 [] _] ⟨OblS_V (fun vals ex ψ => (by
                refine JL_normQ ⟨136, [(116, _), (117, _), (118, _), (119, _)], _⟩ (_ :: _ :: _ :: _ :: _ :: _ :: _ :: _ :: _ :: _ :: _ :: _ :: _ :: _ :: _ :: _ :: _ :: _ :: _ :: _ :: _ :: _ :: _ :: _ :: _ :: _ :: _ :: _ :: _ :: _ :: _ :: _ :: _ :: _ :: ψ) rfl rfl ?_
                refine JL_loadA (vs := [_, _, _]) 7 ty35 rfl rfl ⟨rfl, rfl, rfl, trivial⟩ ?_
                exact JL_nil (JE_stepV rfl ss0))), OblS_V (fun vals ex ψ => (by
                refine JL_normQ ⟨136, [(116, _), (117, _), (118, _), (119, _)], _⟩ (_ :: _ :: _ :: _ :: _ :: _ :: _ :: _ :: _ :: _ :: _ :: _ :: _ :: _ :: _ :: _ :: _ :: _ :: _ :: _ :: _ :: _ :: _ :: _ :: _ :: _ :: _ :: _ :: _ :: _ :: _ :: _ :: _ :: _ :: ψ) rfl rfl ?_
                refine JL_loadA (vs := [_, _, _]) 7 ty35 rfl rfl ⟨rfl, rfl, rfl, trivial⟩ ?_
                exact JL_nil (JE_stepV rfl ss0))), OblS_C (fun vals ex ψ => (by
                refine JL_normQ ⟨136, [(116, _), (117, _), (118, _), (119, _)], _⟩ (_ :: _ :: _ :: _ :: _ :: _ :: _ :: _ :: _ :: _ :: _ :: _ :: _ :: _ :: _ :: _ :: _ :: _ :: _ :: _ :: _ :: _ :: _ :: _ :: _ :: _ :: _ :: _ :: _ :: _ :: _ :: _ :: _ :: _ :: ψ) rfl rfl ?_
                refine JL_callF' (Asks.cons (by first | exact holds_of_mem (by repeat (first | with_reducible exact mm0 | refine mmS ?_)) | (exact holds_of_own 2 rfl)) (Asks.cons (by first | exact holds_of_mem (by repeat (first | with_reducible exact mm0 | refine mmS ?_)) | (exact holds_of_own 2 rfl)) (Asks.cons (by first | exact holds_of_mem (by repeat (first | with_reducible exact mm0 | refine mmS ?_)) | (exact holds_of_own 2 rfl)) (Asks.cons (by first | exact holds_of_mem (by repeat (first | with_reducible exact mm0 | refine mmS ?_)) | (exact holds_of_own 2 rfl)) Asks.nil)))) (fmulq_con (FIn.some (hqX.mono (by decide))) (FIn.some (hqX.mono (by decide)))) rfl ca21 ⟨rfl, rfl, rfl⟩ ?_
                exact fun v φo hP => JL_nil (JE_stepC φo rfl hP (fun p hp => mapB_l hp) (fun p hp => mapB_r (ss0 p hp))))), OblS_V (fun vals ex ψ => (by
                refine JL_normQ ⟨136, [(116, _), (117, _), (118, _), (119, _)], _⟩ (_ :: _ :: _ :: _ :: _ :: _ :: _ :: _ :: _ :: _ :: _ :: _ :: _ :: _ :: _ :: _ :: _ :: _ :: _ :: _ :: _ :: _ :: _ :: _ :: _ :: _ :: _ :: _ :: _ :: _ :: _ :: _ :: _ :: _ :: ψ) rfl rfl ?_
                refine JL_loadA (vs := [_, _, _]) 6 ty35 rfl rfl ⟨rfl, rfl, rfl, trivial⟩ ?_
                exact JL_nil (JE_stepV rfl ss0))), trivial⟩ (by kernel_rfl) (fun vals bs => ?_)
            refine JL_normL [_, _] ⟨136, [(116, _), (117, _), (118, _), (119, _)], _⟩ [box _ _ [_, _, _], box _ _ [_, _], osl _ _ _ _ _ _, box _ _ [_, _, _], box _ _ [_, _, _], box _ _ [_, _, _], box _ _ [_, _, _], box _ _ [_, _, _]] [_, _, _, _, _, _, _, _, _, _, _, _, _, _, _, _, _, _, _, _, _, _, _, _, _, _, _, _, _, _, _, _, _, _, _] rfl rfl rfl rfl ?_
            generalize vals (0 + 1 + 1) = x118
            refine JL_usePost mm0 (fun φo hP => ?_)
            obtain ⟨ad118, cp118, be118, ce118, rfl, rfl⟩ := hP
            refine JL_norm _ [box _ _ [_, _, _], box _ _ [_, _], osl _ _ _ _ _ _, box _ _ [_, _, _], box _ _ [_, _, _], box _ _ [_, _, _], box _ _ [_, _, _], box _ _ [_, _, _]] [_, _, _, _, _, _, _, _, _, _, _, _, _, _, _, _, _, _, _, _, _, _, _, _, _, _, _, _, _, _, _, _, _, _, _, _, _] rfl rfl rfl ?_
            refine JL_callF' (Asks.cons (by first | exact holds_of_mem (by repeat (first | with_reducible exact mm0 | refine mmS ?_)) | (exact holds_of_own 2 rfl)) (Asks.cons (by first | exact holds_of_mem (by repeat (first | with_reducible exact mm0 | refine mmS ?_)) | (exact holds_of_own 2 rfl)) (Asks.cons (by first | exact holds_of_mem (by repeat (first | with_reducible exact mm0 | refine mmS ?_)) | (exact holds_of_own 2 rfl)) (Asks.cons (by first | exact holds_of_mem (by repeat (first | with_reducible exact mm0 | refine mmS ?_)) | (exact holds_of_own 2 rfl)) Asks.nil)))) (fcmpq_con (FIn.some (hqXX.mono (by decide))) (FIn.some (hqrr.mono (by decide)))) rfl ca23 ⟨rfl, rfl, rfl⟩ ?_
            rintro _ _ ⟨rfl, rfl⟩
            refine JL_assign rfl ?_
            refine JL_done_up 136 [box _ _ [_, _, _], box _ _ [_, _], osl _ _ _ _ _ _, box _ _ [_, _, _], box _ _ [_, _, _], box _ _ [_, _, _], box _ _ [_, _, _], box _ _ [_, _, _]] [_, _, _, _, _, _, _, _, _, _, _, _, _, _, _, _, _, _, _, _, _, _, _, _, _, _, _, _, _, _, _, _, _, _, _, _, _] rfl rfl (by simp only [nrmF]; rfl) rfl rfl ?_
            refine JC_seq ?_
            refine JC_region ?_
            refine JL_move rfl ?_
            refine JL_lss rfl rfl ?_
            refine JL_split (fun h122 => ?_) (fun h122 => ?_)
            · exact absurd (cmpQ_neg.1 h122) (Rat.not_lt.2 hle)
            · refine JL_move rfl ?_
              refine JL_guard_yes rfl rfl ?_
              refine JL_move rfl ?_
              refine JL_guard_yes rfl rfl ?_
              refine JL_eql rfl rfl ?_
              refine JL_split (fun h125 => ?_) (fun h125 => ?_)
              · refine JL_guard_yes rfl rfl ?_
                refine JL_move rfl ?_
                refine JL_guard_yes rfl rfl ?_
                refine JL_move rfl ?_
                refine JL_guard_yes rfl rfl ?_
                refine JL_move rfl ?_
                refine JL_guard_yes rfl rfl ?_
                refine JL_lss rfl rfl ?_
                refine JL_split (fun h129 => ?_) (fun h129 => ?_)
                · exact absurd (cmpQ_zero.1 h125) (hst h129)
                · refine JL_guard_yes rfl rfl ?_
                  refine JL_pick_t rfl rfl ?_
                  refine JL_pick_f rfl rfl ?_
                  refine JL_done_up 136 [box _ _ [_, _, _], box _ _ [_, _], osl _ _ _ _ _ _, box _ _ [_, _, _], box _ _ [_, _, _], box _ _ [_, _, _], box _ _ [_, _, _], box _ _ [_, _, _]] [_, _, _, _, _, _, _, _, _, _, _, _, _, _, _, _, _, _, _, _, _, _, _, _, _, _, _, _, _, _, _, _, _, _, _, _, _] rfl rfl (by simp only [nrmF]; rfl) rfl rfl ?_
                  refine JC_false rfl ?_
                  refine JC_skip ?_
                  refine JE_block_normal ?_
                  refine JE_then ?_
                  refine JC_region ?_
                  refine JL_move rfl ?_
                  refine JL_add_to rfl rfl (IntWalk.i64_in _ (by omega)) ?_
                  refine JL_assign rfl ?_
                  refine JL_nil_up 136 [box _ _ [_, _, _], box _ _ [_, _], osl _ _ _ _ _ _, box _ _ [_, _, _], box _ _ [_, _, _], box _ _ [_, _, _], box _ _ [_, _, _], box _ _ [_, _, _]] [_, _, _, _, _, _, _, _, _, _, _, _, _, _, _, _, _, _, _, _, _, _, _, _, _, _, _, _, _, _, _, _, _, _, _, _, _] rfl rfl (by simp only [nrmF]; rfl) rfl rfl ?_
                  refine JE_dropAt 7 ?_
                  refine JE_norm _ [box _ _ [_, _, _], box _ _ [_, _], osl _ _ _ _ _ _, box _ _ [_, _, _], box _ _ [_, _, _], box _ _ [_, _, _], box _ _ [_, _, _]] [_, _, _, _, _, _, _, _, _, _, _, _, _, _, _, _, _, _, _, _, _, _, _, _, _, _, _, _, _, _, _, _, _, _, _, _, _] rfl rfl rfl ?_
                  refine JE_nextS (j + 1) (by kernel_rfl) ?_ ?_ (by kernel_rfl) ?_
                  · exact ⟨by omega, by omega⟩
                  · first | omega | (dsimp only; omega)
                  · exact subset_app subset_nil (ssS (ssS (ssS (ssS (ssS (ssS (ssS (ssS (ssS ss0)))))))))
              · refine JL_guard_yes rfl rfl ?_
                refine JL_move rfl ?_
                refine JL_guard_no rfl rfl ?_
                refine JL_guard_no rfl rfl ?_
                refine JL_guard_no rfl rfl ?_
                refine JL_guard_yes rfl rfl ?_
                refine JL_pick_f rfl rfl ?_
                refine JL_pick_f rfl rfl ?_
                refine JL_done_up 136 [box _ _ [_, _, _], box _ _ [_, _], osl _ _ _ _ _ _, box _ _ [_, _, _], box _ _ [_, _, _], box _ _ [_, _, _], box _ _ [_, _, _], box _ _ [_, _, _]] [_, _, _, _, _, _, _, _, _, _, _, _, _, _, _, _, _, _, _, _, _, _, _, _, _, _, _, _, _, _, _, _, _, _, _, _, _] rfl rfl (by simp only [nrmF]; rfl) rfl rfl ?_
                refine JC_false rfl ?_
                refine JC_skip ?_
                refine JE_block_normal ?_
                refine JE_then ?_
                refine JC_region ?_
                refine JL_move rfl ?_
                refine JL_add_to rfl rfl (IntWalk.i64_in _ (by omega)) ?_
                refine JL_assign rfl ?_
                refine JL_nil_up 136 [box _ _ [_, _, _], box _ _ [_, _], osl _ _ _ _ _ _, box _ _ [_, _, _], box _ _ [_, _, _], box _ _ [_, _, _], box _ _ [_, _, _], box _ _ [_, _, _]] [_, _, _, _, _, _, _, _, _, _, _, _, _, _, _, _, _, _, _, _, _, _, _, _, _, _, _, _, _, _, _, _, _, _, _, _, _] rfl rfl (by simp only [nrmF]; rfl) rfl rfl ?_
                refine JE_dropAt 7 ?_
                refine JE_norm _ [box _ _ [_, _, _], box _ _ [_, _], osl _ _ _ _ _ _, box _ _ [_, _, _], box _ _ [_, _, _], box _ _ [_, _, _], box _ _ [_, _, _]] [_, _, _, _, _, _, _, _, _, _, _, _, _, _, _, _, _, _, _, _, _, _, _, _, _, _, _, _, _, _, _, _, _, _, _, _, _] rfl rfl rfl ?_
                refine JE_nextS (j + 1) (by kernel_rfl) ?_ ?_ (by kernel_rfl) ?_
                · exact ⟨by omega, by omega⟩
                · first | omega | (dsimp only; omega)
                · exact subset_app subset_nil (ssS (ssS (ssS (ssS (ssS (ssS (ssS (ssS (ssS ss0)))))))))
          · refine JL_done_up 136 [box _ _ [_, _, _], box _ _ [_, _], osl _ _ _ _ _ _, box _ _ [_, _, _], box _ _ [_, _, _], box _ _ [_, _, _], box _ _ [_, _, _]] [_, _, _, _, _, _, _, _, _, _, _, _, _, _, _, _, _, _, _, _, _, _, _, _, _, _, _, _] rfl rfl (by simp only [nrmF]; rfl) rfl rfl ?_
            refine JC_false rfl ?_
            refine JC_exit ?_
            refine JE_then_exit ?_
            refine JE_nextS_exit ?_
            refine JE_block_exit ?_
            refine JE_then ?_
            refine JC_seq ?_
            refine JC_region ?_
            refine JL_loadA (vs := [_, _, _]) 5 ty35 rfl rfl ⟨rfl, rfl, rfl, trivial⟩ ?_
            refine JL_loadA (vs := [_, _, _]) 3 ty35 rfl rfl ⟨rfl, rfl, rfl, trivial⟩ ?_
            refine JL_callF' (Asks.cons (by first | exact holds_of_mem (by repeat (first | with_reducible exact mm0 | refine mmS ?_)) | (exact holds_of_own 2 rfl)) (Asks.cons (by first | exact holds_of_mem (by repeat (first | with_reducible exact mm0 | refine mmS ?_)) | (exact holds_of_own 2 rfl)) (Asks.cons (by first | exact holds_of_mem (by repeat (first | with_reducible exact mm0 | refine mmS ?_)) | (exact holds_of_own 2 rfl)) (Asks.cons (by first | exact holds_of_mem (by repeat (first | with_reducible exact mm0 | refine mmS ?_)) | (exact holds_of_own 2 rfl)) Asks.nil)))) (fcmpq_con (FIn.some (hqr.mono (by decide))) (FIn.some (hqr.mono (by decide)))) rfl ca23 ⟨rfl, rfl, rfl⟩ ?_
            rintro _ _ ⟨rfl, rfl⟩
            refine JL_eql rfl rfl ?_
            rw [decide_eq_true (p := cmpQ r r = 0) (cmpQ_zero.2 rfl)]
            refine JL_assign rfl ?_
            refine JL_done_up 136 [box _ _ [_, _, _], box _ _ [_, _], osl _ _ _ _ _ _, box _ _ [_, _, _], box _ _ [_, _, _], box _ _ [_, _, _], box _ _ [_, _, _]] [_, _, _, _, _, _, _, _, _, _, _, _, _, _, _, _, _, _, _, _, _, _, _, _, _, _, _, _] rfl rfl (by simp only [nrmF]; rfl) rfl rfl ?_
            refine JC_ret ?_
            refine JE_ret (vs := [_]) [] Tryd.results5 ⟨rfl, rfl⟩ ?_ ?_
            · exact ⟨rfl, rfl⟩
            · exact all_nil
        · refine JL_normL [_, _, _] ⟨136, [(56, _), (57, _), (58, _), (59, _), (60, _), (61, _), (62, _), (63, _), (64, _), (55, _), (65, _), (66, _), (67, _), (13, _), (12, _)], _⟩ [box _ _ [_, _, _], box _ _ [_, _], osl _ _ _ _ _ _, box _ _ [_, _, _], box _ _ [_, _, _]] [_, _, _, _, _, _, _, _, _, _, _, _, _, _, _] rfl rfl rfl rfl ?_
          generalize vals (0 + 1 + 1 + 1 + 1 + 1) = x61
          generalize vals (0 + 1 + 1 + 1 + 1 + 1 + 1) = x62
          generalize vals (0 + 1 + 1 + 1 + 1 + 1 + 1 + 1 + 1) = x64
          generalize vals (0 + 1 + 1 + 1 + 1 + 1 + 1 + 1 + 1 + 1) = x55
          generalize vals (0 + 1 + 1 + 1 + 1 + 1 + 1 + 1 + 1 + 1 + 1) = x65
          generalize vals (0 + 1 + 1 + 1 + 1 + 1 + 1 + 1 + 1 + 1 + 1 + 1) = x66
          generalize vals (0 + 1 + 1 + 1 + 1 + 1 + 1 + 1 + 1 + 1 + 1 + 1 + 1) = x67
          generalize bs (0 + 1 + 1 + 1 + 1 + 1 + 1 + 1 + 1 + 1 + 1 + 1 + 1 + 1) = b13
          generalize vals (0 + 1 + 1 + 1 + 1 + 1 + 1 + 1 + 1 + 1 + 1 + 1 + 1 + 1 + 1) = x12
          refine JL_usePost (mmS (mmS (mmS mm0))) (fun φo hP => ?_)
          obtain ⟨ad55, cp55, be55, ce55, rfl, rfl⟩ := hP
          refine JL_norm _ [box _ _ [_, _, _], box _ _ [_, _], osl _ _ _ _ _ _, box _ _ [_, _, _], box _ _ [_, _, _]] [_, _, _, _, _, _, _, _, _, _, _, _, _, _, _, _, _] rfl rfl rfl ?_
          refine JL_usePost (mmS (mmS (mmS (mmS (mmS (mmS (mmS mm0))))))) (fun φo hP => ?_)
          obtain ⟨ad66, cp66, be66, ce66, rfl, rfl⟩ := hP
          refine JL_norm _ [box _ _ [_, _, _], box _ _ [_, _], osl _ _ _ _ _ _, box _ _ [_, _, _], box _ _ [_, _, _]] [_, _, _, _, _, _, _, _, _, _, _, _, _, _, _, _, _, _, _] rfl rfl rfl ?_
          refine JL_usePost (mmS (mmS (mmS (mmS (mmS (mmS (mmS (mmS (mmS (mmS (mmS mm0))))))))))) (fun φo hP => ?_)
          obtain ⟨rfl, rfl⟩ := hP
          refine JL_norm _ [box _ _ [_, _, _], box _ _ [_, _], osl _ _ _ _ _ _, box _ _ [_, _, _], box _ _ [_, _, _]] [_, _, _, _, _, _, _, _, _, _, _, _, _, _, _, _, _, _, _] rfl rfl rfl ?_
          refine JL_store (vs := [_, _, _]) 4 ty35 rfl rfl rfl (AllOne.cons rfl (AllOne.cons rfl (AllOne.cons rfl AllOne.nil))) rfl (Nat.le_of_ble_eq_true rfl) ?_
          refine JL_extract rfl rfl ?_
          refine JL_assign rfl ?_
          refine JL_done_up 136 [box _ _ [_, _, _], box _ _ [_, _], osl _ _ _ _ _ _, box _ _ [_, _, _], box _ _ [_, _, _]] [_, _, _, _, _, _, _, _, _, _, _, _, _, _, _, _, _, _, _] rfl rfl (by simp only [nrmF]; rfl) rfl rfl ?_
          refine JC_seq ?_
          refine JC_seq ?_
          refine JC_drawT mixed 23 [spV 68 [] _, spV 69 [0] _, spV 70 [1] _, spV 71 [2] _, spV 72 [2, 3] _, spV 73 [2, 4] _, spV 74 [5] _, spV 75 [6] _, spV 76 [6] _, spV 77 [6, 7, 8] _, spV 78 [6, 9] _, spV 79 [10] _, spV 80 [11] _, spV 81 [11] _, spV 82 [11] _, spC 83 [11, 14] _, spC 84 [11, 13, 15] _, spC 85 [11, 12, 16] _, spV 86 [11, 17] _, spV 87 [11, 18] _, spV 88 [19] _, spV 89 [20] _, spV 90 [20] _] ⟨OblS_V (fun vals ex ψ => (by
              refine JL_normQ ⟨136, [(68, _), (69, _), (70, _), (71, _), (72, _), (73, _), (74, _), (75, _), (76, _), (77, _), (78, _), (79, _), (80, _), (81, _), (82, _), (83, _), (84, _), (85, _), (86, _), (87, _), (88, _), (89, _), (90, _)], _⟩ (_ :: _ :: _ :: _ :: _ :: _ :: _ :: _ :: _ :: _ :: _ :: _ :: _ :: _ :: _ :: _ :: _ :: _ :: _ :: ψ) rfl rfl ?_
              refine JL_move rfl ?_
              exact JL_nil (JE_stepV rfl ss0))), OblS_V (fun vals ex ψ => (by
              refine JL_normQ ⟨136, [(68, _), (69, _), (70, _), (71, _), (72, _), (73, _), (74, _), (75, _), (76, _), (77, _), (78, _), (79, _), (80, _), (81, _), (82, _), (83, _), (84, _), (85, _), (86, _), (87, _), (88, _), (89, _), (90, _)], _⟩ (_ :: _ :: _ :: _ :: _ :: _ :: _ :: _ :: _ :: _ :: _ :: _ :: _ :: _ :: _ :: _ :: _ :: _ :: _ :: ψ) rfl rfl ?_
              refine JL_neq rfl rfl ?_
              rw [decide_eq_false (p := (0 : Int) ≠ 0) (fun h => h rfl)]
              exact JL_nil (JE_stepV rfl ss0))), OblS_V (fun vals ex ψ => (by
              refine JL_normQ ⟨136, [(68, _), (69, _), (70, _), (71, _), (72, _), (73, _), (74, _), (75, _), (76, _), (77, _), (78, _), (79, _), (80, _), (81, _), (82, _), (83, _), (84, _), (85, _), (86, _), (87, _), (88, _), (89, _), (90, _)], _⟩ (_ :: _ :: _ :: _ :: _ :: _ :: _ :: _ :: _ :: _ :: _ :: _ :: _ :: _ :: _ :: _ :: _ :: _ :: _ :: ψ) rfl rfl ?_
              refine JL_move rfl ?_
              exact JL_nil (JE_stepV rfl ss0))), OblS_V (fun vals ex ψ => (by
              refine JL_normQ ⟨136, [(68, _), (69, _), (70, _), (71, _), (72, _), (73, _), (74, _), (75, _), (76, _), (77, _), (78, _), (79, _), (80, _), (81, _), (82, _), (83, _), (84, _), (85, _), (86, _), (87, _), (88, _), (89, _), (90, _)], _⟩ (_ :: _ :: _ :: _ :: _ :: _ :: _ :: _ :: _ :: _ :: _ :: _ :: _ :: _ :: _ :: _ :: _ :: _ :: _ :: ψ) rfl rfl ?_
              refine JL_guard_yes rfl rfl ?_
              refine JL_move rfl ?_
              exact JL_nil (JE_stepV rfl ss0))), OblS_V (fun vals ex ψ => (by
              refine JL_normQ ⟨136, [(68, _), (69, _), (70, _), (71, _), (72, _), (73, _), (74, _), (75, _), (76, _), (77, _), (78, _), (79, _), (80, _), (81, _), (82, _), (83, _), (84, _), (85, _), (86, _), (87, _), (88, _), (89, _), (90, _)], _⟩ (_ :: _ :: _ :: _ :: _ :: _ :: _ :: _ :: _ :: _ :: _ :: _ :: _ :: _ :: _ :: _ :: _ :: _ :: _ :: ψ) rfl rfl ?_
              refine JL_guard_yes rfl rfl ?_
              refine JL_neq rfl rfl ?_
              rw [decide_eq_false (p := (0 : Int) ≠ 0) (fun h => h rfl)]
              exact JL_nil (JE_stepV rfl ss0))), OblS_V (fun vals ex ψ => (by
              refine JL_normQ ⟨136, [(68, _), (69, _), (70, _), (71, _), (72, _), (73, _), (74, _), (75, _), (76, _), (77, _), (78, _), (79, _), (80, _), (81, _), (82, _), (83, _), (84, _), (85, _), (86, _), (87, _), (88, _), (89, _), (90, _)], _⟩ (_ :: _ :: _ :: _ :: _ :: _ :: _ :: _ :: _ :: _ :: _ :: _ :: _ :: _ :: _ :: _ :: _ :: _ :: _ :: ψ) rfl rfl ?_
              refine JL_pick_f rfl rfl ?_
              exact JL_nil (JE_stepV rfl ss0))), OblS_V (fun vals ex ψ => (by
              refine JL_normQ ⟨136, [(68, _), (69, _), (70, _), (71, _), (72, _), (73, _), (74, _), (75, _), (76, _), (77, _), (78, _), (79, _), (80, _), (81, _), (82, _), (83, _), (84, _), (85, _), (86, _), (87, _), (88, _), (89, _), (90, _)], _⟩ (_ :: _ :: _ :: _ :: _ :: _ :: _ :: _ :: _ :: _ :: _ :: _ :: _ :: _ :: _ :: _ :: _ :: _ :: _ :: ψ) rfl rfl ?_
              refine JL_move rfl ?_
              exact JL_nil (JE_stepV rfl ss0))), OblS_V (fun vals ex ψ => (by
              refine JL_normQ ⟨136, [(68, _), (69, _), (70, _), (71, _), (72, _), (73, _), (74, _), (75, _), (76, _), (77, _), (78, _), (79, _), (80, _), (81, _), (82, _), (83, _), (84, _), (85, _), (86, _), (87, _), (88, _), (89, _), (90, _)], _⟩ (_ :: _ :: _ :: _ :: _ :: _ :: _ :: _ :: _ :: _ :: _ :: _ :: _ :: _ :: _ :: _ :: _ :: _ :: _ :: ψ) rfl rfl ?_
              refine JL_guard_yes rfl rfl ?_
              refine JL_move rfl ?_
              exact JL_nil (JE_stepV rfl ss0))), OblS_V (fun vals ex ψ => (by
              refine JL_normQ ⟨136, [(68, _), (69, _), (70, _), (71, _), (72, _), (73, _), (74, _), (75, _), (76, _), (77, _), (78, _), (79, _), (80, _), (81, _), (82, _), (83, _), (84, _), (85, _), (86, _), (87, _), (88, _), (89, _), (90, _)], _⟩ (_ :: _ :: _ :: _ :: _ :: _ :: _ :: _ :: _ :: _ :: _ :: _ :: _ :: _ :: _ :: _ :: _ :: _ :: _ :: ψ) rfl rfl ?_
              refine JL_guard_yes rfl rfl ?_
              refine JL_move rfl ?_
              exact JL_nil (JE_stepV rfl ss0))), OblS_V (fun vals ex ψ => (by
              refine JL_normQ ⟨136, [(68, _), (69, _), (70, _), (71, _), (72, _), (73, _), (74, _), (75, _), (76, _), (77, _), (78, _), (79, _), (80, _), (81, _), (82, _), (83, _), (84, _), (85, _), (86, _), (87, _), (88, _), (89, _), (90, _)], _⟩ (_ :: _ :: _ :: _ :: _ :: _ :: _ :: _ :: _ :: _ :: _ :: _ :: _ :: _ :: _ :: _ :: _ :: _ :: _ :: ψ) rfl rfl ?_
              refine JL_guard_yes rfl rfl ?_
              refine JL_neq rfl rfl ?_
              rw [decide_eq_false (p := k ≠ k) (fun h => h rfl)]
              exact JL_nil (JE_stepV rfl ss0))), OblS_V (fun vals ex ψ => (by
              refine JL_normQ ⟨136, [(68, _), (69, _), (70, _), (71, _), (72, _), (73, _), (74, _), (75, _), (76, _), (77, _), (78, _), (79, _), (80, _), (81, _), (82, _), (83, _), (84, _), (85, _), (86, _), (87, _), (88, _), (89, _), (90, _)], _⟩ (_ :: _ :: _ :: _ :: _ :: _ :: _ :: _ :: _ :: _ :: _ :: _ :: _ :: _ :: _ :: _ :: _ :: _ :: _ :: ψ) rfl rfl ?_
              refine JL_pick_f rfl rfl ?_
              exact JL_nil (JE_stepV rfl ss0))), OblS_V (fun vals ex ψ => (by
              refine JL_normQ ⟨136, [(68, _), (69, _), (70, _), (71, _), (72, _), (73, _), (74, _), (75, _), (76, _), (77, _), (78, _), (79, _), (80, _), (81, _), (82, _), (83, _), (84, _), (85, _), (86, _), (87, _), (88, _), (89, _), (90, _)], _⟩ (_ :: _ :: _ :: _ :: _ :: _ :: _ :: _ :: _ :: _ :: _ :: _ :: _ :: _ :: _ :: _ :: _ :: _ :: _ :: ψ) rfl rfl ?_
              refine JL_move rfl ?_
              exact JL_nil (JE_stepV rfl ss0))), OblS_V (fun vals ex ψ => (by
              refine JL_normQ ⟨136, [(68, _), (69, _), (70, _), (71, _), (72, _), (73, _), (74, _), (75, _), (76, _), (77, _), (78, _), (79, _), (80, _), (81, _), (82, _), (83, _), (84, _), (85, _), (86, _), (87, _), (88, _), (89, _), (90, _)], _⟩ (_ :: _ :: _ :: _ :: _ :: _ :: _ :: _ :: _ :: _ :: _ :: _ :: _ :: _ :: _ :: _ :: _ :: _ :: _ :: ψ) rfl rfl ?_
              refine JL_guard_yes rfl rfl ?_
              refine JL_loadA (vs := [_, _, _]) 4 ty35 rfl rfl ⟨rfl, rfl, rfl, trivial⟩ ?_
              exact JL_nil (JE_stepV rfl ss0))), OblS_V (fun vals ex ψ => (by
              refine JL_normQ ⟨136, [(68, _), (69, _), (70, _), (71, _), (72, _), (73, _), (74, _), (75, _), (76, _), (77, _), (78, _), (79, _), (80, _), (81, _), (82, _), (83, _), (84, _), (85, _), (86, _), (87, _), (88, _), (89, _), (90, _)], _⟩ (_ :: _ :: _ :: _ :: _ :: _ :: _ :: _ :: _ :: _ :: _ :: _ :: _ :: _ :: _ :: _ :: _ :: _ :: _ :: ψ) rfl rfl ?_
              refine JL_guard_yes rfl rfl ?_
              refine JL_loadA (vs := [_, _, _]) 3 ty35 rfl rfl ⟨rfl, rfl, rfl, trivial⟩ ?_
              exact JL_nil (JE_stepV rfl ss0))), OblS_V (fun vals ex ψ => (by
              refine JL_normQ ⟨136, [(68, _), (69, _), (70, _), (71, _), (72, _), (73, _), (74, _), (75, _), (76, _), (77, _), (78, _), (79, _), (80, _), (81, _), (82, _), (83, _), (84, _), (85, _), (86, _), (87, _), (88, _), (89, _), (90, _)], _⟩ (_ :: _ :: _ :: _ :: _ :: _ :: _ :: _ :: _ :: _ :: _ :: _ :: _ :: _ :: _ :: _ :: _ :: _ :: _ :: ψ) rfl rfl ?_
              refine JL_guard_yes rfl rfl ?_
              refine JL_move rfl ?_
              exact JL_nil (JE_stepV rfl ss0))), OblS_C (fun vals ex ψ => (by
              refine JL_normQ ⟨136, [(68, _), (69, _), (70, _), (71, _), (72, _), (73, _), (74, _), (75, _), (76, _), (77, _), (78, _), (79, _), (80, _), (81, _), (82, _), (83, _), (84, _), (85, _), (86, _), (87, _), (88, _), (89, _), (90, _)], _⟩ (_ :: _ :: _ :: _ :: _ :: _ :: _ :: _ :: _ :: _ :: _ :: _ :: _ :: _ :: _ :: _ :: _ :: _ :: _ :: ψ) rfl rfl ?_
              refine JL_guard_yes rfl rfl ?_
              refine JL_callF' Asks.nil (fofi_con s 1 (by omega) (by omega)) rfl ca22 ⟨rfl, rfl, rfl⟩ ?_
              exact fun v φo hP => JL_nil (JE_stepC φo rfl hP (fun p hp => mapB_l hp) (fun p hp => mapB_r (ss0 p hp))))), OblS_C (fun vals ex ψ => (by
              refine JL_normQ ⟨136, [(68, _), (69, _), (70, _), (71, _), (72, _), (73, _), (74, _), (75, _), (76, _), (77, _), (78, _), (79, _), (80, _), (81, _), (82, _), (83, _), (84, _), (85, _), (86, _), (87, _), (88, _), (89, _), (90, _)], _⟩ (_ :: _ :: _ :: _ :: _ :: _ :: _ :: _ :: _ :: _ :: _ :: _ :: _ :: _ :: _ :: _ :: _ :: _ :: _ :: _ :: ψ) rfl rfl ?_
              generalize vals 15 = x83
              refine JL_usePost mm0 (fun φo hP => ?_)
              obtain ⟨ad83, cp83, be83, ce83, rfl, rfl⟩ := hP
              refine JL_norm _ _ (_ :: _ :: _ :: _ :: _ :: _ :: _ :: _ :: _ :: _ :: _ :: _ :: _ :: _ :: _ :: _ :: _ :: _ :: _ :: _ :: _ :: _ :: ψ) rfl rfl rfl ?_
              refine JL_guard_yes rfl rfl ?_
              refine JL_callF' (Asks.cons (by first | exact holds_of_mem (by repeat (first | with_reducible exact mm0 | refine mmS ?_)) | (exact holds_of_own 2 rfl)) (Asks.cons (by first | exact holds_of_mem (by repeat (first | with_reducible exact mm0 | refine mmS ?_)) | (exact holds_of_own 2 rfl)) (Asks.cons (by first | exact holds_of_mem (by repeat (first | with_reducible exact mm0 | refine mmS ?_)) | (exact holds_of_own 2 rfl)) (Asks.cons (by first | exact holds_of_mem (by repeat (first | with_reducible exact mm0 | refine mmS ?_)) | (exact holds_of_own 2 rfl)) Asks.nil)))) (fmulq_con (FIn.some (hqr.mono (by decide))) (FIn.some (hqs.mono (by decide)))) rfl ca21 ⟨rfl, rfl, rfl⟩ ?_
              exact fun v φo hP => JL_nil (JE_stepC φo rfl hP (fun p hp => mapB_l hp) (fun p hp => mapB_r ((ssS (ssS ss0)) p hp))))), OblS_C (fun vals ex ψ => (by
              refine JL_normQ ⟨136, [(68, _), (69, _), (70, _), (71, _), (72, _), (73, _), (74, _), (75, _), (76, _), (77, _), (78, _), (79, _), (80, _), (81, _), (82, _), (83, _), (84, _), (85, _), (86, _), (87, _), (88, _), (89, _), (90, _)], _⟩ (_ :: _ :: _ :: _ :: _ :: _ :: _ :: _ :: _ :: _ :: _ :: _ :: _ :: _ :: _ :: _ :: _ :: _ :: _ :: _ :: ψ) rfl rfl ?_
              generalize vals 16 = x84
              refine JL_usePost mm0 (fun φo hP => ?_)
              obtain ⟨ad84, cp84, be84, ce84, rfl, rfl⟩ := hP
              refine JL_norm _ _ (_ :: _ :: _ :: _ :: _ :: _ :: _ :: _ :: _ :: _ :: _ :: _ :: _ :: _ :: _ :: _ :: _ :: _ :: _ :: _ :: _ :: _ :: ψ) rfl rfl rfl ?_
              refine JL_guard_yes rfl rfl ?_
              refine JL_callF' (Asks.cons (by first | exact holds_of_mem (by repeat (first | with_reducible exact mm0 | refine mmS ?_)) | (exact holds_of_own 2 rfl)) (Asks.cons (by first | exact holds_of_mem (by repeat (first | with_reducible exact mm0 | refine mmS ?_)) | (exact holds_of_own 2 rfl)) (Asks.cons (by first | exact holds_of_mem (by repeat (first | with_reducible exact mm0 | refine mmS ?_)) | (exact holds_of_own 2 rfl)) (Asks.cons (by first | exact holds_of_mem (by repeat (first | with_reducible exact mm0 | refine mmS ?_)) | (exact holds_of_own 2 rfl)) Asks.nil)))) (fcmpq_con (FIn.some (hqrs.mono (by decide))) (FIn.some (hqrs.mono (by decide)))) rfl ca23 ⟨rfl, rfl, rfl⟩ ?_
              exact fun v φo hP => JL_nil (JE_stepC φo rfl hP (fun p hp => mapB_l hp) (fun p hp => mapB_r ((ssS (ssS ss0)) p hp))))), OblS_V (fun vals ex ψ => (by
              refine JL_normQ ⟨136, [(68, _), (69, _), (70, _), (71, _), (72, _), (73, _), (74, _), (75, _), (76, _), (77, _), (78, _), (79, _), (80, _), (81, _), (82, _), (83, _), (84, _), (85, _), (86, _), (87, _), (88, _), (89, _), (90, _)], _⟩ (_ :: _ :: _ :: _ :: _ :: _ :: _ :: _ :: _ :: _ :: _ :: _ :: _ :: _ :: _ :: _ :: _ :: _ :: _ :: _ :: ψ) rfl rfl ?_
              generalize vals 17 = x85
              refine JL_usePost mm0 (fun φo hP => ?_)
              obtain ⟨rfl, rfl⟩ := hP
              refine JL_norm _ _ (_ :: _ :: _ :: _ :: _ :: _ :: _ :: _ :: _ :: _ :: _ :: _ :: _ :: _ :: _ :: _ :: _ :: _ :: _ :: _ :: ψ) rfl rfl rfl ?_
              refine JL_guard_yes rfl rfl ?_
              refine JL_neq rfl rfl ?_
              rw [decide_eq_false (p := cmpQ (r * ofq s 1) (r * ofq s 1) ≠ 0) (fun h => h (cmpQ_zero.2 rfl))]
              exact JL_nil (JE_stepV rfl ss0))), OblS_V (fun vals ex ψ => (by
              refine JL_normQ ⟨136, [(68, _), (69, _), (70, _), (71, _), (72, _), (73, _), (74, _), (75, _), (76, _), (77, _), (78, _), (79, _), (80, _), (81, _), (82, _), (83, _), (84, _), (85, _), (86, _), (87, _), (88, _), (89, _), (90, _)], _⟩ (_ :: _ :: _ :: _ :: _ :: _ :: _ :: _ :: _ :: _ :: _ :: _ :: _ :: _ :: _ :: _ :: _ :: _ :: _ :: ψ) rfl rfl ?_
              refine JL_pick_f rfl rfl ?_
              exact JL_nil (JE_stepV rfl ss0))), OblS_V (fun vals ex ψ => (by
              refine JL_normQ ⟨136, [(68, _), (69, _), (70, _), (71, _), (72, _), (73, _), (74, _), (75, _), (76, _), (77, _), (78, _), (79, _), (80, _), (81, _), (82, _), (83, _), (84, _), (85, _), (86, _), (87, _), (88, _), (89, _), (90, _)], _⟩ (_ :: _ :: _ :: _ :: _ :: _ :: _ :: _ :: _ :: _ :: _ :: _ :: _ :: _ :: _ :: _ :: _ :: _ :: _ :: ψ) rfl rfl ?_
              refine JL_move rfl ?_
              exact JL_nil (JE_stepV rfl ss0))), OblS_V (fun vals ex ψ => (by
              refine JL_normQ ⟨136, [(68, _), (69, _), (70, _), (71, _), (72, _), (73, _), (74, _), (75, _), (76, _), (77, _), (78, _), (79, _), (80, _), (81, _), (82, _), (83, _), (84, _), (85, _), (86, _), (87, _), (88, _), (89, _), (90, _)], _⟩ (_ :: _ :: _ :: _ :: _ :: _ :: _ :: _ :: _ :: _ :: _ :: _ :: _ :: _ :: _ :: _ :: _ :: _ :: _ :: ψ) rfl rfl ?_
              refine JL_guard_yes rfl rfl ?_
              refine JL_move rfl ?_
              exact JL_nil (JE_stepV rfl ss0))), OblS_V (fun vals ex ψ => (by
              refine JL_normQ ⟨136, [(68, _), (69, _), (70, _), (71, _), (72, _), (73, _), (74, _), (75, _), (76, _), (77, _), (78, _), (79, _), (80, _), (81, _), (82, _), (83, _), (84, _), (85, _), (86, _), (87, _), (88, _), (89, _), (90, _)], _⟩ (_ :: _ :: _ :: _ :: _ :: _ :: _ :: _ :: _ :: _ :: _ :: _ :: _ :: _ :: _ :: _ :: _ :: _ :: _ :: ψ) rfl rfl ?_
              refine JL_guard_yes rfl rfl ?_
              refine JL_move rfl ?_
              exact JL_nil (JE_stepV rfl ss0))), trivial⟩ (by kernel_rfl) (fun vals bs => ?_)
          refine JL_normL [_, _, _] ⟨136, [(68, _), (69, _), (70, _), (71, _), (72, _), (73, _), (74, _), (75, _), (76, _), (77, _), (78, _), (79, _), (80, _), (81, _), (82, _), (83, _), (84, _), (85, _), (86, _), (87, _), (88, _), (89, _), (90, _)], _⟩ [box _ _ [_, _, _], box _ _ [_, _], osl _ _ _ _ _ _, box _ _ [_, _, _], box _ _ [_, _, _]] [_, _, _, _, _, _, _, _, _, _, _, _, _, _, _, _, _, _, _, _, _, _] rfl rfl rfl rfl ?_
          generalize vals (0 + 1 + 1 + 1 + 1 + 1 + 1 + 1 + 1 + 1 + 1 + 1 + 1 + 1 + 1 + 1) = x83
          generalize vals (0 + 1 + 1 + 1 + 1 + 1 + 1 + 1 + 1 + 1 + 1 + 1 + 1 + 1 + 1 + 1 + 1) = x84
          generalize vals (0 + 1 + 1 + 1 + 1 + 1 + 1 + 1 + 1 + 1 + 1 + 1 + 1 + 1 + 1 + 1 + 1 + 1) = x85
          refine JL_guard_yes rfl rfl ?_
          refine JL_callF' Asks.nil (binT_con ⟨hk, hk2⟩) rfl ca17 ⟨rfl, rfl, rfl, rfl⟩ ?_
          rintro _ _ ⟨rfl, rfl⟩
          refine JL_guard_yes rfl rfl ?_
          refine JL_not rfl ?_
          rw [Bool.not_true]
          refine JL_pick_f rfl rfl ?_
          refine JL_done_up 136 [box _ _ [_, _, _], box _ _ [_, _], osl _ _ _ _ _ _, box _ _ [_, _, _], box _ _ [_, _, _]] [_, _, _, _, _, _, _, _, _, _, _, _, _, _, _, _, _, _, _, _, _, _] rfl rfl (by simp only [nrmF]; rfl) rfl rfl ?_
          refine JC_false rfl ?_
          refine JC_skip ?_
          refine JE_then ?_
          refine JC_seq ?_
          refine JC_drawT mixed 8 [spV 94 [] _, spC 95 [0] _, spV 96 [] _, spC 97 [2] _, spV 98 [] _, spC 99 [3, 4] _, spC 100 [1, 5] _, spA 15 35 [.bool false, .slice none 0 0, .slice none 0 0]] ⟨OblS_V (fun vals ex ψ => (by
              refine JL_normQ ⟨136, [(94, _), (95, _), (96, _), (97, _), (98, _), (99, _), (100, _), (15, _)], _⟩ (_ :: _ :: _ :: _ :: _ :: _ :: _ :: _ :: _ :: _ :: _ :: _ :: _ :: _ :: _ :: _ :: _ :: _ :: _ :: _ :: _ :: _ :: ψ) rfl rfl ?_
              refine JL_move rfl ?_
              exact JL_nil (JE_stepV rfl ss0))), OblS_C (fun vals ex ψ => (by
              refine JL_normQ ⟨136, [(94, _), (95, _), (96, _), (97, _), (98, _), (99, _), (100, _), (15, _)], _⟩ (_ :: _ :: _ :: _ :: _ :: _ :: _ :: _ :: _ :: _ :: _ :: _ :: _ :: _ :: _ :: _ :: _ :: _ :: _ :: _ :: _ :: _ :: ψ) rfl rfl ?_
              refine JL_callF' Asks.nil (fofi_con w 1 (by omega) (by omega)) rfl ca22 ⟨rfl, rfl, rfl⟩ ?_
              exact fun v φo hP => JL_nil (JE_stepC φo rfl hP (fun p hp => mapB_l hp) (fun p hp => mapB_r (ss0 p hp))))), OblS_V (fun vals ex ψ => (by
              refine JL_normQ ⟨136, [(94, _), (95, _), (96, _), (97, _), (98, _), (99, _), (100, _), (15, _)], _⟩ (_ :: _ :: _ :: _ :: _ :: _ :: _ :: _ :: _ :: _ :: _ :: _ :: _ :: _ :: _ :: _ :: _ :: _ :: _ :: _ :: _ :: _ :: ψ) rfl rfl ?_
              refine JL_move rfl ?_
              exact JL_nil (JE_stepV rfl ss0))), OblS_C (fun vals ex ψ => (by
              refine JL_normQ ⟨136, [(94, _), (95, _), (96, _), (97, _), (98, _), (99, _), (100, _), (15, _)], _⟩ (_ :: _ :: _ :: _ :: _ :: _ :: _ :: _ :: _ :: _ :: _ :: _ :: _ :: _ :: _ :: _ :: _ :: _ :: _ :: _ :: _ :: _ :: ψ) rfl rfl ?_
              refine JL_callF' Asks.nil (fofi_con k 1 (by omega) (by omega)) rfl ca22 ⟨rfl, rfl, rfl⟩ ?_
              exact fun v φo hP => JL_nil (JE_stepC φo rfl hP (fun p hp => mapB_l hp) (fun p hp => mapB_r (ss0 p hp))))), OblS_V (fun vals ex ψ => (by
              refine JL_normQ ⟨136, [(94, _), (95, _), (96, _), (97, _), (98, _), (99, _), (100, _), (15, _)], _⟩ (_ :: _ :: _ :: _ :: _ :: _ :: _ :: _ :: _ :: _ :: _ :: _ :: _ :: _ :: _ :: _ :: _ :: _ :: _ :: _ :: _ :: _ :: ψ) rfl rfl ?_
              refine JL_loadA (vs := [_, _, _]) 0 ty35 rfl rfl ⟨rfl, rfl, rfl, trivial⟩ ?_
              exact JL_nil (JE_stepV rfl ss0))), OblS_C (fun vals ex ψ => (by
              refine JL_normQ ⟨136, [(94, _), (95, _), (96, _), (97, _), (98, _), (99, _), (100, _), (15, _)], _⟩ (_ :: _ :: _ :: _ :: _ :: _ :: _ :: _ :: _ :: _ :: _ :: _ :: _ :: _ :: _ :: _ :: _ :: _ :: _ :: _ :: _ :: _ :: _ :: ψ) rfl rfl ?_
              generalize vals 3 = x97
              refine JL_usePost mm0 (fun φo hP => ?_)
              obtain ⟨ad97, cp97, be97, ce97, rfl, rfl⟩ := hP
              refine JL_norm _ _ (_ :: _ :: _ :: _ :: _ :: _ :: _ :: _ :: _ :: _ :: _ :: _ :: _ :: _ :: _ :: _ :: _ :: _ :: _ :: _ :: _ :: _ :: _ :: _ :: _ :: ψ) rfl rfl rfl ?_
              refine JL_callF' (Asks.cons (by first | exact holds_of_mem (by repeat (first | with_reducible exact mm0 | refine mmS ?_)) | (exact holds_of_own 2 rfl)) (Asks.cons (by first | exact holds_of_mem (by repeat (first | with_reducible exact mm0 | refine mmS ?_)) | (exact holds_of_own 2 rfl)) (Asks.cons (by first | exact holds_of_mem (by repeat (first | with_reducible exact mm0 | refine mmS ?_)) | (exact holds_of_own 2 rfl)) (Asks.cons (by first | exact holds_of_mem (by repeat (first | with_reducible exact mm0 | refine mmS ?_)) | (exact holds_of_own 2 rfl)) Asks.nil)))) (fmulq_con (FIn.some (hqk.mono (by decide))) (g1.mono (by decide))) rfl ca21 ⟨rfl, rfl, rfl⟩ ?_
              exact fun v φo hP => JL_nil (JE_stepC φo rfl hP (fun p hp => mapB_l hp) (fun p hp => mapB_r ((ssS (ssS ss0)) p hp))))), OblS_C (fun vals ex ψ => (by
              refine JL_normQ ⟨136, [(94, _), (95, _), (96, _), (97, _), (98, _), (99, _), (100, _), (15, _)], _⟩ (_ :: _ :: _ :: _ :: _ :: _ :: _ :: _ :: _ :: _ :: _ :: _ :: _ :: _ :: _ :: _ :: _ :: _ :: _ :: _ :: _ :: _ :: _ :: _ :: ψ) rfl rfl ?_
              generalize vals 1 = x95
              refine JL_usePost mm0 (fun φo hP => ?_)
              obtain ⟨ad95, cp95, be95, ce95, rfl, rfl⟩ := hP
              refine JL_norm _ _ (_ :: _ :: _ :: _ :: _ :: _ :: _ :: _ :: _ :: _ :: _ :: _ :: _ :: _ :: _ :: _ :: _ :: _ :: _ :: _ :: _ :: _ :: _ :: _ :: _ :: _ :: ψ) rfl rfl rfl ?_
              generalize vals 5 = x99
              refine JL_usePost (mmS (mmS (mmS mm0))) (fun φo hP => ?_)
              obtain ⟨ad99, cp99, be99, ce99, rfl, rfl⟩ := hP
              refine JL_norm _ _ (_ :: _ :: _ :: _ :: _ :: _ :: _ :: _ :: _ :: _ :: _ :: _ :: _ :: _ :: _ :: _ :: _ :: _ :: _ :: _ :: _ :: _ :: _ :: _ :: _ :: _ :: _ :: _ :: ψ) rfl rfl rfl ?_
              refine JL_callF' (Asks.cons (by first | exact holds_of_mem (by repeat (first | with_reducible exact mm0 | refine mmS ?_)) | (exact holds_of_own 2 rfl)) (Asks.cons (by first | exact holds_of_mem (by repeat (first | with_reducible exact mm0 | refine mmS ?_)) | (exact holds_of_own 2 rfl)) (Asks.cons (by first | exact holds_of_mem (by repeat (first | with_reducible exact mm0 | refine mmS ?_)) | (exact holds_of_own 2 rfl)) (Asks.cons (by first | exact holds_of_mem (by repeat (first | with_reducible exact mm0 | refine mmS ?_)) | (exact holds_of_own 2 rfl)) Asks.nil)))) (fsubq_con (FIn.some (hqw.mono (by decide))) (FIn.some (hqku.mono (by decide)))) rfl ca24 ⟨rfl, rfl, rfl⟩ ?_
              exact fun v φo hP => JL_nil (JE_stepC φo rfl hP (fun p hp => mapB_l hp) (fun p hp => mapB_r ((ssS (ssS (ssS (ssS ss0)))) p hp))))), OblS_al rfl z35, trivial⟩ (by kernel_rfl) (fun vals bs => ?_)
          refine JL_normL [_] ⟨136, [(94, _), (95, _), (96, _), (97, _), (98, _), (99, _), (100, _), (15, _)], _⟩ [box _ _ [_, _, _], box _ _ [_, _], osl _ _ _ _ _ _, box _ _ [_, _, _], box _ _ [_, _, _], box _ _ [_, _, _]] [_, _, _, _, _, _, _, _, _, _, _, _, _, _, _, _, _, _, _, _, _, _, _, _, _, _] rfl rfl rfl rfl ?_
          generalize vals (0 + 1) = x95
          generalize vals (0 + 1 + 1 + 1) = x97
          generalize vals (0 + 1 + 1 + 1 + 1 + 1) = x99
          generalize vals (0 + 1 + 1 + 1 + 1 + 1 + 1) = x100
          generalize bs (0 + 1 + 1 + 1 + 1 + 1 + 1 + 1) = b15
          refine JL_usePost (mmS (mmS (mmS mm0))) (fun φo hP => ?_)
          obtain ⟨ad100, cp100, be100, ce100, rfl, rfl⟩ := hP
          refine JL_norm _ [box _ _ [_, _, _], box _ _ [_, _], osl _ _ _ _ _ _, box _ _ [_, _, _], box _ _ [_, _, _], box _ _ [_, _, _]] [_, _, _, _, _, _, _, _, _, _, _, _, _, _, _, _, _, _, _, _, _, _, _, _, _, _, _, _] rfl rfl rfl ?_
          refine JL_store (vs := [_, _, _]) 5 ty35 rfl rfl rfl (AllOne.cons rfl (AllOne.cons rfl (AllOne.cons rfl AllOne.nil))) rfl (Nat.le_of_ble_eq_true rfl) ?_
          refine JL_done_up 136 [box _ _ [_, _, _], box _ _ [_, _], osl _ _ _ _ _ _, box _ _ [_, _, _], box _ _ [_, _, _], box _ _ [_, _, _]] [_, _, _, _, _, _, _, _, _, _, _, _, _, _, _, _, _, _, _, _, _, _, _, _, _, _, _, _] rfl rfl (by simp only [nrmF]; rfl) rfl rfl ?_
          refine JC_seq ?_
          rw [show ofq w 1 - ofq k 1 * q1 = r from hN.eq.symm]
          refine JC_region ?_
          refine JL_loadA (vs := [_, _, _]) 5 ty35 rfl rfl ⟨rfl, rfl, rfl, trivial⟩ ?_
          refine JL_loadA (vs := [_, _, _]) 5 ty35 rfl rfl ⟨rfl, rfl, rfl, trivial⟩ ?_
          refine JL_callF' (Asks.cons (by first | exact holds_of_mem (by repeat (first | with_reducible exact mm0 | refine mmS ?_)) | (exact holds_of_own 2 rfl)) (Asks.cons (by first | exact holds_of_mem (by repeat (first | with_reducible exact mm0 | refine mmS ?_)) | (exact holds_of_own 2 rfl)) (Asks.cons (by first | exact holds_of_mem (by repeat (first | with_reducible exact mm0 | refine mmS ?_)) | (exact holds_of_own 2 rfl)) (Asks.cons (by first | exact holds_of_mem (by repeat (first | with_reducible exact mm0 | refine mmS ?_)) | (exact holds_of_own 2 rfl)) Asks.nil)))) (fmulq_con (FIn.some (hqr.mono (by decide))) (FIn.some (hqr.mono (by decide)))) rfl ca21 ⟨rfl, rfl, rfl⟩ ?_
          rintro _ _ ⟨ad103, cp103, be103, ce103, rfl, rfl⟩
          refine JL_alloc z35 (fun b16 => ?_)
          refine JL_store (vs := [_, _, _]) 6 ty35 rfl rfl rfl (AllOne.cons rfl (AllOne.cons rfl (AllOne.cons rfl AllOne.nil))) rfl (Nat.le_of_ble_eq_true rfl) ?_
          refine JL_done_up 136 [box _ _ [_, _, _], box _ _ [_, _], osl _ _ _ _ _ _, box _ _ [_, _, _], box _ _ [_, _, _], box _ _ [_, _, _], box _ _ [_, _, _]] [_, _, _, _, _, _, _, _, _, _, _, _, _, _, _, _, _, _, _, _, _, _, _, _, _, _, _, _, _, _] rfl rfl (by simp only [nrmF]; rfl) rfl rfl ?_
          refine JC_seq ?_
          refine JC_seq ?_
          refine JC_region ?_
          refine JL_assign rfl ?_
          refine JL_done_up 136 [box _ _ [_, _, _], box _ _ [_, _], osl _ _ _ _ _ _, box _ _ [_, _, _], box _ _ [_, _, _], box _ _ [_, _, _], box _ _ [_, _, _]] [_, _, _, _, _, _, _, _, _, _, _, _, _, _, _, _, _, _, _, _, _, _, _, _, _, _, _, _, _, _] rfl rfl (by simp only [nrmF]; rfl) rfl rfl ?_
          refine JC_block ?_
          refine JC_loopS ((Nat)) (fun (j : Nat) => 1 ≤ j ∧ (j : Int) ≤ M + 1) (fun (j : Nat) => M.toNat + 1 - j) (fun u (j : Nat) => [none, none, none, none, none, none, some (u 6), none, none, none, none, none, none, none, none, none, none, some (.int .i64 (j : Nat)), some (u 18), some (u 19), none, none, none, none, none, none, none, none, none, none, none, none, none, none, none, none, none, none, none, none, none, none, none, none, none, none, none, none, none, none, none, none, none, none, none, none, none, none, none, none, none, none, none, none, none, none, none, none, none, none, none, none, none, none, none, none, none, none, none, none, none, none, none, none, none, none, none, none, none, none, none, none, none, none, none, none, none, none, none, none, none, none, none, none, some (u 104), some (u 105), some (u 106), some (u 107), some (u 108), some (u 109), some (u 110), some (u 111), some (u 112), some (u 113), some (u 114), some (u 115), some (u 116), some (u 117), some (u 118), some (u 119), some (u 120), some (u 121), some (u 122), some (u 123), some (u 124), some (u 125), some (u 126), some (u 127), some (u 128), some (u 129), some (u 130), some (u 131), none, none, none, none]) (fun (j : Nat) => [none, none, none, none, none, none, none]) (fun (j : Nat) => []) (1) (by kernel_rfl) ?_ (by kernel_rfl) ?_ ?_
          · exact ⟨Nat.le_refl _, by omega⟩
          · exact subset_nil
          intro u j hC
          obtain ⟨hj1, hj2⟩ := hC
          refine JC_norm ⟨136, [], [_, _, _, _, _, _, _, _, _, _, _, _, _, _, _, _, _, _, _, _, _, _, _, _, _, _, _, _, _, _, _, _, _, _, _, _, _, _, _, _, _, _, _, _, _, _, _, _, _, _, _, _, _, _, _, _, _, _, _, _, _, _, _, _, _, _, _, _, _, _, _, _, _, _, _, _, _, _, _, _, _, _, _, _, _, _, _, _, _, _, _, _, _, _, _, _, _, _, _, _, _, _, _, _, _, _, _, _, _, _, _, _, _, _, _, _, _, _, _, _, _, _, _, _, _, _, _, _, _, _, _, _, _, _, _, _]⟩ [box _ _ [_, _, _], box _ _ [_, _], osl _ _ _ _ _ _, box _ _ [_, _, _], box _ _ [_, _, _], box _ _ [_, _, _], box _ _ [_, _, _]] [_, _, _, _, _, _, _, _, _, _, _, _, _, _, _, _, _, _, _, _, _, _, _, _, _, _, _, _, _, _] rfl rfl rfl ?_
          refine JC_seq ?_
          refine JC_seq ?_
          refine JC_region ?_
          refine JL_move rfl ?_
          refine JL_move rfl ?_
          refine JL_leq rfl rfl ?_
          refine JL_split (fun h106 => ?_) (fun h106 => ?_)
          · refine JL_done_up 136 [box _ _ [_, _, _], box _ _ [_, _], osl _ _ _ _ _ _, box _ _ [_, _, _], box _ _ [_, _, _], box _ _ [_, _, _], box _ _ [_, _, _]] [_, _, _, _, _, _, _, _, _, _, _, _, _, _, _, _, _, _, _, _, _, _, _, _, _, _, _, _, _, _] rfl rfl (by simp only [nrmF]; rfl) rfl rfl ?_
            refine JC_true rfl ?_
            refine JC_skip ?_
            refine JE_then ?_
            refine JC_seq ?_
            refine JC_block ?_
            refine JC_seq ?_
            have hqj : qs (ofq ((j : Nat) : Int) 1) 3 := qs_ofi (by omega)
            have hqju : qs (ofq ((j : Nat) : Int) 1 * q1) 7 := hqj.mul hq3 (Nat.le_refl 7)
            have hqX : qs (ofq w 1 - ofq ((j : Nat) : Int) 1 * q1) 12 := hqw.sub hqju (by decide)
            have hqXX : qs ((ofq w 1 - ofq ((j : Nat) : Int) 1 * q1) * (ofq w 1 - ofq ((j : Nat) : Int) 1 * q1)) 24 := hqX.mul hqX (Nat.le_refl 24)
            obtain ⟨hle, hst⟩ := near_sq hN (j := ((j : Nat) : Int)) (by omega) (by omega)
            refine JC_drawT mixed 8 [spV 109 [] _, spC 110 [0] _, spV 111 [] _, spC 112 [2] _, spV 113 [] _, spC 114 [3, 4] _, spC 115 [1, 5] _, spA 18 35 [.bool false, .slice none 0 0, .slice none 0 0]] ⟨OblS_V (fun vals ex ψ => (by
                refine JL_normQ ⟨136, [(109, _), (110, _), (111, _), (112, _), (113, _), (114, _), (115, _), (18, _)], _⟩ (_ :: _ :: _ :: _ :: _ :: _ :: _ :: _ :: _ :: _ :: _ :: _ :: _ :: _ :: _ :: _ :: _ :: _ :: _ :: _ :: _ :: _ :: _ :: _ :: _ :: _ :: _ :: _ :: _ :: _ :: ψ) rfl rfl ?_
                refine JL_move rfl ?_
                exact JL_nil (JE_stepV rfl ss0))), OblS_C (fun vals ex ψ => (by
                refine JL_normQ ⟨136, [(109, _), (110, _), (111, _), (112, _), (113, _), (114, _), (115, _), (18, _)], _⟩ (_ :: _ :: _ :: _ :: _ :: _ :: _ :: _ :: _ :: _ :: _ :: _ :: _ :: _ :: _ :: _ :: _ :: _ :: _ :: _ :: _ :: _ :: _ :: _ :: _ :: _ :: _ :: _ :: _ :: _ :: ψ) rfl rfl ?_
                refine JL_callF' Asks.nil (fofi_con w 1 (by omega) (by omega)) rfl ca22 ⟨rfl, rfl, rfl⟩ ?_
                exact fun v φo hP => JL_nil (JE_stepC φo rfl hP (fun p hp => mapB_l hp) (fun p hp => mapB_r (ss0 p hp))))), OblS_V (fun vals ex ψ => (by
                refine JL_normQ ⟨136, [(109, _), (110, _), (111, _), (112, _), (113, _), (114, _), (115, _), (18, _)], _⟩ (_ :: _ :: _ :: _ :: _ :: _ :: _ :: _ :: _ :: _ :: _ :: _ :: _ :: _ :: _ :: _ :: _ :: _ :: _ :: _ :: _ :: _ :: _ :: _ :: _ :: _ :: _ :: _ :: _ :: _ :: ψ) rfl rfl ?_
                refine JL_move rfl ?_
                exact JL_nil (JE_stepV rfl ss0))), OblS_C (fun vals ex ψ => (by
                refine JL_normQ ⟨136, [(109, _), (110, _), (111, _), (112, _), (113, _), (114, _), (115, _), (18, _)], _⟩ (_ :: _ :: _ :: _ :: _ :: _ :: _ :: _ :: _ :: _ :: _ :: _ :: _ :: _ :: _ :: _ :: _ :: _ :: _ :: _ :: _ :: _ :: _ :: _ :: _ :: _ :: _ :: _ :: _ :: _ :: ψ) rfl rfl ?_
                refine JL_callF' Asks.nil (fofi_con ((j : Nat) : Int) 1 (by omega) (by omega)) rfl ca22 ⟨rfl, rfl, rfl⟩ ?_
                exact fun v φo hP => JL_nil (JE_stepC φo rfl hP (fun p hp => mapB_l hp) (fun p hp => mapB_r (ss0 p hp))))), OblS_V (fun vals ex ψ => (by
                refine JL_normQ ⟨136, [(109, _), (110, _), (111, _), (112, _), (113, _), (114, _), (115, _), (18, _)], _⟩ (_ :: _ :: _ :: _ :: _ :: _ :: _ :: _ :: _ :: _ :: _ :: _ :: _ :: _ :: _ :: _ :: _ :: _ :: _ :: _ :: _ :: _ :: _ :: _ :: _ :: _ :: _ :: _ :: _ :: _ :: ψ) rfl rfl ?_
                refine JL_loadA (vs := [_, _, _]) 0 ty35 rfl rfl ⟨rfl, rfl, rfl, trivial⟩ ?_
                exact JL_nil (JE_stepV rfl ss0))), OblS_C (fun vals ex ψ => (by
                refine JL_normQ ⟨136, [(109, _), (110, _), (111, _), (112, _), (113, _), (114, _), (115, _), (18, _)], _⟩ (_ :: _ :: _ :: _ :: _ :: _ :: _ :: _ :: _ :: _ :: _ :: _ :: _ :: _ :: _ :: _ :: _ :: _ :: _ :: _ :: _ :: _ :: _ :: _ :: _ :: _ :: _ :: _ :: _ :: _ :: _ :: ψ) rfl rfl ?_
                generalize vals 3 = x112
                refine JL_usePost mm0 (fun φo hP => ?_)
                obtain ⟨ad112, cp112, be112, ce112, rfl, rfl⟩ := hP
                refine JL_norm _ _ (_ :: _ :: _ :: _ :: _ :: _ :: _ :: _ :: _ :: _ :: _ :: _ :: _ :: _ :: _ :: _ :: _ :: _ :: _ :: _ :: _ :: _ :: _ :: _ :: _ :: _ :: _ :: _ :: _ :: _ :: _ :: _ :: _ :: ψ) rfl rfl rfl ?_
                refine JL_callF' (Asks.cons (by first | exact holds_of_mem (by repeat (first | with_reducible exact mm0 | refine mmS ?_)) | (exact holds_of_own 2 rfl)) (Asks.cons (by first | exact holds_of_mem (by repeat (first | with_reducible exact mm0 | refine mmS ?_)) | (exact holds_of_own 2 rfl)) (Asks.cons (by first | exact holds_of_mem (by repeat (first | with_reducible exact mm0 | refine mmS ?_)) | (exact holds_of_own 2 rfl)) (Asks.cons (by first | exact holds_of_mem (by repeat (first | with_reducible exact mm0 | refine mmS ?_)) | (exact holds_of_own 2 rfl)) Asks.nil)))) (fmulq_con (FIn.some (hqj.mono (by decide))) (g1.mono (by decide))) rfl ca21 ⟨rfl, rfl, rfl⟩ ?_
                exact fun v φo hP => JL_nil (JE_stepC φo rfl hP (fun p hp => mapB_l hp) (fun p hp => mapB_r ((ssS (ssS ss0)) p hp))))), OblS_C (fun vals ex ψ => (by
                refine JL_normQ ⟨136, [(109, _), (110, _), (111, _), (112, _), (113, _), (114, _), (115, _), (18, _)], _⟩ (_ :: _ :: _ :: _ :: _ :: _ :: _ :: _ :: _ :: _ :: _ :: _ :: _ :: _ :: _ :: _ :: _ :: _ :: _ :: _ :: _ :: _ :: _ :: _ :: _ :: _ :: _ :: _ :: _ :: _ :: _ :: _ :: ψ) rfl rfl ?_
                generalize vals 1 = x110
                refine JL_usePost mm0 (fun φo hP => ?_)
                obtain ⟨ad110, cp110, be110, ce110, rfl, rfl⟩ := hP
                refine JL_norm _ _ (_ :: _ :: _ :: _ :: _ :: _ :: _ :: _ :: _ :: _ :: _ :: _ :: _ :: _ :: _ :: _ :: _ :: _ :: _ :: _ :: _ :: _ :: _ :: _ :: _ :: _ :: _ :: _ :: _ :: _ :: _ :: _ :: _ :: _ :: ψ) rfl rfl rfl ?_
                generalize vals 5 = x114
                refine JL_usePost (mmS (mmS (mmS mm0))) (fun φo hP => ?_)
                obtain ⟨ad114, cp114, be114, ce114, rfl, rfl⟩ := hP
                refine JL_norm _ _ (_ :: _ :: _ :: _ :: _ :: _ :: _ :: _ :: _ :: _ :: _ :: _ :: _ :: _ :: _ :: _ :: _ :: _ :: _ :: _ :: _ :: _ :: _ :: _ :: _ :: _ :: _ :: _ :: _ :: _ :: _ :: _ :: _ :: _ :: _ :: _ :: ψ) rfl rfl rfl ?_
                refine JL_callF' (Asks.cons (by first | exact holds_of_mem (by repeat (first | with_reducible exact mm0 | refine mmS ?_)) | (exact holds_of_own 2 rfl)) (Asks.cons (by first | exact holds_of_mem (by repeat (first | with_reducible exact mm0 | refine mmS ?_)) | (exact holds_of_own 2 rfl)) (Asks.cons (by first | exact holds_of_mem (by repeat (first | with_reducible exact mm0 | refine mmS ?_)) | (exact holds_of_own 2 rfl)) (Asks.cons (by first | exact holds_of_mem (by repeat (first | with_reducible exact mm0 | refine mmS ?_)) | (exact holds_of_own 2 rfl)) Asks.nil)))) (fsubq_con (FIn.some (hqw.mono (by decide))) (FIn.some (hqju.mono (by decide)))) rfl ca24 ⟨rfl, rfl, rfl⟩ ?_
                exact fun v φo hP => JL_nil (JE_stepC φo rfl hP (fun p hp => mapB_l hp) (fun p hp => mapB_r ((ssS (ssS (ssS (ssS ss0)))) p hp))))), OblS_al rfl z35, trivial⟩ (by kernel_rfl) (fun vals bs => ?_)
            refine JL_normL [_] ⟨136, [(109, _), (110, _), (111, _), (112, _), (113, _), (114, _), (115, _), (18, _)], _⟩ [box _ _ [_, _, _], box _ _ [_, _], osl _ _ _ _ _ _, box _ _ [_, _, _], box _ _ [_, _, _], box _ _ [_, _, _], box _ _ [_, _, _], box _ _ [_, _, _]] [_, _, _, _, _, _, _, _, _, _, _, _, _, _, _, _, _, _, _, _, _, _, _, _, _, _, _, _, _, _, _, _, _, _] rfl rfl rfl rfl ?_
            generalize vals (0 + 1) = x110
            generalize vals (0 + 1 + 1 + 1) = x112
            generalize vals (0 + 1 + 1 + 1 + 1 + 1) = x114
            generalize vals (0 + 1 + 1 + 1 + 1 + 1 + 1) = x115
            generalize bs (0 + 1 + 1 + 1 + 1 + 1 + 1 + 1) = b18
            refine JL_usePost (mmS (mmS (mmS mm0))) (fun φo hP => ?_)
            obtain ⟨ad115, cp115, be115, ce115, rfl, rfl⟩ := hP
            refine JL_norm _ [box _ _ [_, _, _], box _ _ [_, _], osl _ _ _ _ _ _, box _ _ [_, _, _], box _ _ [_, _, _], box _ _ [_, _, _], box _ _ [_, _, _], box _ _ [_, _, _]] [_, _, _, _, _, _, _, _, _, _, _, _, _, _, _, _, _, _, _, _, _, _, _, _, _, _, _, _, _, _, _, _, _, _, _, _] rfl rfl rfl ?_
            refine JL_store (vs := [_, _, _]) 7 ty35 rfl rfl rfl (AllOne.cons rfl (AllOne.cons rfl (AllOne.cons rfl AllOne.nil))) rfl (Nat.le_of_ble_eq_true rfl) ?_
            refine JL_done_up 136 [box _ _ [_, _, _], box _ _ [_, _], osl _ _ _ _ _ _, box _ _ [_, _, _], box _ _ [_, _, _], box _ _ [_, _, _], box _ _ [_, _, _], box _ _ [_, _, _]] [_, _, _, _, _, _, _, _, _, _, _, _, _, _, _, _, _, _, _, _, _, _, _, _, _, _, _, _, _, _, _, _, _, _, _, _] rfl rfl (by simp only [nrmF]; rfl) rfl rfl ?_
            refine JC_seq ?_
            refine JC_drawT mixed 4 [spV 116 [] _, spV 117 [] _, spC 118 [0, 1] _, spV 119 [] _] ⟨OblS_V (fun vals ex ψ => (by
                refine JL_normQ ⟨136, [(116, _), (117, _), (118, _), (119, _)], _⟩ (_ :: _ :: _ :: _ :: _ :: _ :: _ :: _ :: _ :: _ :: _ :: _ :: _ :: _ :: _ :: _ :: _ :: _ :: _ :: _ :: _ :: _ :: _ :: _ :: _ :: _ :: _ :: _ :: _ :: _ :: _ :: _ :: _ :: _ :: _ :: _ :: ψ) rfl rfl ?_
                refine JL_loadA (vs := [_, _, _]) 7 ty35 rfl rfl ⟨rfl, rfl, rfl, trivial⟩ ?_
                exact JL_nil (JE_stepV rfl ss0))), OblS_V (fun vals ex ψ => (by
                refine JL_normQ ⟨136, [(116, _), (117, _), (118, _), (119, _)], _⟩ (_ :: _ :: _ :: _ :: _ :: _ :: _ :: _ :: _ :: _ :: _ :: _ :: _ :: _ :: _ :: _ :: _ :: _ :: _ :: _ :: _ :: _ :: _ :: _ :: _ :: _ :: _ :: _ :: _ :: _ :: _ :: _ :: _ :: _ :: _ :: _ :: ψ) rfl rfl ?_
                refine JL_loadA (vs := [_, _, _]) 7 ty35 rfl rfl ⟨rfl, rfl, rfl, trivial⟩ ?_
                exact JL_nil (JE_stepV rfl ss0))), OblS_C (fun vals ex ψ => (by
                refine JL_normQ ⟨136, [(116, _), (117, _), (118, _), (119, _)], _⟩ (_ :: _ :: _ :: _ :: _ :: _ :: _ :: _ :: _ :: _ :: _ :: _ :: _ :: _ :: _ :: _ :: _ :: _ :: _ :: _ :: _ :: _ :: _ :: _ :: _ :: _ :: _ :: _ :: _ :: _ :: _ :: _ :: _ :: _ :: _ :: _ :: ψ) rfl rfl ?_
                refine JL_callF' (Asks.cons (by first | exact holds_of_mem (by repeat (first | with_reducible exact mm0 | refine mmS ?_)) | (exact holds_of_own 2 rfl)) (Asks.cons (by first | exact holds_of_mem (by repeat (first | with_reducible exact mm0 | refine mmS ?_)) | (exact holds_of_own 2 rfl)) (Asks.cons (by first | exact holds_of_mem (by repeat (first | with_reducible exact mm0 | refine mmS ?_)) | (exact holds_of_own 2 rfl)) (Asks.cons (by first | exact holds_of_mem (by repeat (first | with_reducible exact mm0 | refine mmS ?_)) | (exact holds_of_own 2 rfl)) Asks.nil)))) (fmulq_con (FIn.some (hqX.mono (by decide))) (FIn.some (hqX.mono (by decide)))) rfl ca21 ⟨rfl, rfl, rfl⟩ ?_
                exact fun v φo hP => JL_nil (JE_stepC φo rfl hP (fun p hp => mapB_l hp) (fun p hp => mapB_r (ss0 p hp))))), OblS_V (fun vals ex ψ => (by
                refine JL_normQ ⟨136, [(116, _), (117, _), (118, _), (119, _)], _⟩ (_ :: _ :: _ :: _ :: _ :: _ :: _ :: _ :: _ :: _ :: _ :: _ :: _ :: _ :: _ :: _ :: _ :: _ :: _ :: _ :: _ :: _ :: _ :: _ :: _ :: _ :: _ :: _ :: _ :: _ :: _ :: _ :: _ :: _ :: _ :: _ :: ψ) rfl rfl ?_
                refine JL_loadA (vs := [_, _, _]) 6 ty35 rfl rfl ⟨rfl, rfl, rfl, trivial⟩ ?_
                exact JL_nil (JE_stepV rfl ss0))), trivial⟩ (by kernel_rfl) (fun vals bs => ?_)
            refine JL_normL [_, _] ⟨136, [(116, _), (117, _), (118, _), (119, _)], _⟩ [box _ _ [_, _, _], box _ _ [_, _], osl _ _ _ _ _ _, box _ _ [_, _, _], box _ _ [_, _, _], box _ _ [_, _, _], box _ _ [_, _, _], box _ _ [_, _, _]] [_, _, _, _, _, _, _, _, _, _, _, _, _, _, _, _, _, _, _, _, _, _, _, _, _, _, _, _, _, _, _, _, _, _, _, _, _] rfl rfl rfl rfl ?_
            generalize vals (0 + 1 + 1) = x118
            refine JL_usePost mm0 (fun φo hP => ?_)
            obtain ⟨ad118, cp118, be118, ce118, rfl, rfl⟩ := hP
            refine JL_norm _ [box _ _ [_, _, _], box _ _ [_, _], osl _ _ _ _ _ _, box _ _ [_, _, _], box _ _ [_, _, _], box _ _ [_, _, _], box _ _ [_, _, _], box _ _ [_, _, _]] [_, _, _, _, _, _, _, _, _, _, _, _, _, _, _, _, _, _, _, _, _, _, _, _, _, _, _, _, _, _, _, _, _, _, _, _, _, _, _] rfl rfl rfl ?_
            refine JL_callF' (Asks.cons (by first | exact holds_of_mem (by repeat (first | with_reducible exact mm0 | refine mmS ?_)) | (exact holds_of_own 2 rfl)) (Asks.cons (by first | exact holds_of_mem (by repeat (first | with_reducible exact mm0 | refine mmS ?_)) | (exact holds_of_own 2 rfl)) (Asks.cons (by first | exact holds_of_mem (by repeat (first | with_reducible exact mm0 | refine mmS ?_)) | (exact holds_of_own 2 rfl)) (Asks.cons (by first | exact holds_of_mem (by repeat (first | with_reducible exact mm0 | refine mmS ?_)) | (exact holds_of_own 2 rfl)) Asks.nil)))) (fcmpq_con (FIn.some (hqXX.mono (by decide))) (FIn.some (hqrr.mono (by decide)))) rfl ca23 ⟨rfl, rfl, rfl⟩ ?_
            rintro _ _ ⟨rfl, rfl⟩
            refine JL_assign rfl ?_
            refine JL_done_up 136 [box _ _ [_, _, _], box _ _ [_, _], osl _ _ _ _ _ _, box _ _ [_, _, _], box _ _ [_, _, _], box _ _ [_, _, _], box _ _ [_, _, _], box _ _ [_, _, _]] [_, _, _, _, _, _, _, _, _, _, _, _, _, _, _, _, _, _, _, _, _, _, _, _, _, _, _, _, _, _, _, _, _, _, _, _, _, _, _] rfl rfl (by simp only [nrmF]; rfl) rfl rfl ?_
            refine JC_seq ?_
            refine JC_region ?_
            refine JL_move rfl ?_
            refine JL_lss rfl rfl ?_
            refine JL_split (fun h122 => ?_) (fun h122 => ?_)
            · exact absurd (cmpQ_neg.1 h122) (Rat.not_lt.2 hle)
            · refine JL_move rfl ?_
              refine JL_guard_yes rfl rfl ?_
              refine JL_move rfl ?_
              refine JL_guard_yes rfl rfl ?_
              refine JL_eql rfl rfl ?_
              refine JL_split (fun h125 => ?_) (fun h125 => ?_)
              · refine JL_guard_yes rfl rfl ?_
                refine JL_move rfl ?_
                refine JL_guard_yes rfl rfl ?_
                refine JL_move rfl ?_
                refine JL_guard_yes rfl rfl ?_
                refine JL_move rfl ?_
                refine JL_guard_yes rfl rfl ?_
                refine JL_lss rfl rfl ?_
                refine JL_split (fun h129 => ?_) (fun h129 => ?_)
                · exact absurd (cmpQ_zero.1 h125) (hst h129)
                · refine JL_guard_yes rfl rfl ?_
                  refine JL_pick_t rfl rfl ?_
                  refine JL_pick_f rfl rfl ?_
                  refine JL_done_up 136 [box _ _ [_, _, _], box _ _ [_, _], osl _ _ _ _ _ _, box _ _ [_, _, _], box _ _ [_, _, _], box _ _ [_, _, _], box _ _ [_, _, _], box _ _ [_, _, _]] [_, _, _, _, _, _, _, _, _, _, _, _, _, _, _, _, _, _, _, _, _, _, _, _, _, _, _, _, _, _, _, _, _, _, _, _, _, _, _] rfl rfl (by simp only [nrmF]; rfl) rfl rfl ?_
                  refine JC_false rfl ?_
                  refine JC_skip ?_
                  refine JE_block_normal ?_
                  refine JE_then ?_
                  refine JC_region ?_
                  refine JL_move rfl ?_
                  refine JL_add_to rfl rfl (IntWalk.i64_in _ (by omega)) ?_
                  refine JL_assign rfl ?_
                  refine JL_nil_up 136 [box _ _ [_, _, _], box _ _ [_, _], osl _ _ _ _ _ _, box _ _ [_, _, _], box _ _ [_, _, _], box _ _ [_, _, _], box _ _ [_, _, _], box _ _ [_, _, _]] [_, _, _, _, _, _, _, _, _, _, _, _, _, _, _, _, _, _, _, _, _, _, _, _, _, _, _, _, _, _, _, _, _, _, _, _, _, _, _] rfl rfl (by simp only [nrmF]; rfl) rfl rfl ?_
                  refine JE_dropAt 7 ?_
                  refine JE_norm _ [box _ _ [_, _, _], box _ _ [_, _], osl _ _ _ _ _ _, box _ _ [_, _, _], box _ _ [_, _, _], box _ _ [_, _, _], box _ _ [_, _, _]] [_, _, _, _, _, _, _, _, _, _, _, _, _, _, _, _, _, _, _, _, _, _, _, _, _, _, _, _, _, _, _, _, _, _, _, _, _, _, _] rfl rfl rfl ?_
                  refine JE_nextS (j + 1) (by kernel_rfl) ?_ ?_ (by kernel_rfl) ?_
                  · exact ⟨by omega, by omega⟩
                  · first | omega | (dsimp only; omega)
                  · exact subset_app subset_nil (ssS (ssS (ssS (ssS (ssS (ssS (ssS (ssS (ssS ss0)))))))))
              · refine JL_guard_yes rfl rfl ?_
                refine JL_move rfl ?_
                refine JL_guard_no rfl rfl ?_
                refine JL_guard_no rfl rfl ?_
                refine JL_guard_no rfl rfl ?_
                refine JL_guard_yes rfl rfl ?_
                refine JL_pick_f rfl rfl ?_
                refine JL_pick_f rfl rfl ?_
                refine JL_done_up 136 [box _ _ [_, _, _], box _ _ [_, _], osl _ _ _ _ _ _, box _ _ [_, _, _], box _ _ [_, _, _], box _ _ [_, _, _], box _ _ [_, _, _], box _ _ [_, _, _]] [_, _, _, _, _, _, _, _, _, _, _, _, _, _, _, _, _, _, _, _, _, _, _, _, _, _, _, _, _, _, _, _, _, _, _, _, _, _, _] rfl rfl (by simp only [nrmF]; rfl) rfl rfl ?_
                refine JC_false rfl ?_
                refine JC_skip ?_
                refine JE_block_normal ?_
                refine JE_then ?_
                refine JC_region ?_
                refine JL_move rfl ?_
                refine JL_add_to rfl rfl (IntWalk.i64_in _ (by omega)) ?_
                refine JL_assign rfl ?_
                refine JL_nil_up 136 [box _ _ [_, _, _], box _ _ [_, _], osl _ _ _ _ _ _, box _ _ [_, _, _], box _ _ [_, _, _], box _ _ [_, _, _], box _ _ [_, _, _], box _ _ [_, _, _]] [_, _, _, _, _, _, _, _, _, _, _, _, _, _, _, _, _, _, _, _, _, _, _, _, _, _, _, _, _, _, _, _, _, _, _, _, _, _, _] rfl rfl (by simp only [nrmF]; rfl) rfl rfl ?_
                refine JE_dropAt 7 ?_
                refine JE_norm _ [box _ _ [_, _, _], box _ _ [_, _], osl _ _ _ _ _ _, box _ _ [_, _, _], box _ _ [_, _, _], box _ _ [_, _, _], box _ _ [_, _, _]] [_, _, _, _, _, _, _, _, _, _, _, _, _, _, _, _, _, _, _, _, _, _, _, _, _, _, _, _, _, _, _, _, _, _, _, _, _, _, _] rfl rfl rfl ?_
                refine JE_nextS (j + 1) (by kernel_rfl) ?_ ?_ (by kernel_rfl) ?_
                · exact ⟨by omega, by omega⟩
                · first | omega | (dsimp only; omega)
                · exact subset_app subset_nil (ssS (ssS (ssS (ssS (ssS (ssS (ssS (ssS (ssS ss0)))))))))
          · refine JL_done_up 136 [box _ _ [_, _, _], box _ _ [_, _], osl _ _ _ _ _ _, box _ _ [_, _, _], box _ _ [_, _, _], box _ _ [_, _, _], box _ _ [_, _, _]] [_, _, _, _, _, _, _, _, _, _, _, _, _, _, _, _, _, _, _, _, _, _, _, _, _, _, _, _, _, _] rfl rfl (by simp only [nrmF]; rfl) rfl rfl ?_
            refine JC_false rfl ?_
            refine JC_exit ?_
            refine JE_then_exit ?_
            refine JE_nextS_exit ?_
            refine JE_block_exit ?_
            refine JE_then ?_
            refine JC_seq ?_
            refine JC_region ?_
            refine JL_loadA (vs := [_, _, _]) 5 ty35 rfl rfl ⟨rfl, rfl, rfl, trivial⟩ ?_
            refine JL_loadA (vs := [_, _, _]) 3 ty35 rfl rfl ⟨rfl, rfl, rfl, trivial⟩ ?_
            refine JL_callF' (Asks.cons (by first | exact holds_of_mem (by repeat (first | with_reducible exact mm0 | refine mmS ?_)) | (exact holds_of_own 2 rfl)) (Asks.cons (by first | exact holds_of_mem (by repeat (first | with_reducible exact mm0 | refine mmS ?_)) | (exact holds_of_own 2 rfl)) (Asks.cons (by first | exact holds_of_mem (by repeat (first | with_reducible exact mm0 | refine mmS ?_)) | (exact holds_of_own 2 rfl)) (Asks.cons (by first | exact holds_of_mem (by repeat (first | with_reducible exact mm0 | refine mmS ?_)) | (exact holds_of_own 2 rfl)) Asks.nil)))) (fcmpq_con (FIn.some (hqr.mono (by decide))) (FIn.some (hqr.mono (by decide)))) rfl ca23 ⟨rfl, rfl, rfl⟩ ?_
            rintro _ _ ⟨rfl, rfl⟩
            refine JL_eql rfl rfl ?_
            rw [decide_eq_true (p := cmpQ r r = 0) (cmpQ_zero.2 rfl)]
            refine JL_assign rfl ?_
            refine JL_done_up 136 [box _ _ [_, _, _], box _ _ [_, _], osl _ _ _ _ _ _, box _ _ [_, _, _], box _ _ [_, _, _], box _ _ [_, _, _], box _ _ [_, _, _]] [_, _, _, _, _, _, _, _, _, _, _, _, _, _, _, _, _, _, _, _, _, _, _, _, _, _, _, _, _, _] rfl rfl (by simp only [nrmF]; rfl) rfl rfl ?_
            refine JC_ret ?_
            refine JE_ret (vs := [_]) [] Tryd.results5 ⟨rfl, rfl⟩ ?_ ?_
            · exact ⟨rfl, rfl⟩
            · exact all_nil
    · refine JL_guard_yes rfl rfl ?_
      refine JL_not rfl ?_
      rw [Bool.not_false]
      refine JL_pick_f rfl rfl ?_
      refine JL_move rfl ?_
      refine JL_guard_no rfl rfl ?_
      refine JL_guard_no rfl rfl ?_
      refine JL_guard_no rfl rfl ?_
      refine JL_pick_t rfl rfl ?_
      refine JL_done_up 136 [box _ _ [_, _, _], box _ _ [_, _], osl _ _ _ _ _ _] [_, _, _] rfl rfl (by simp only [nrmF]; rfl) rfl rfl ?_
      refine JC_true rfl ?_
      refine JC_seq ?_
      refine JC_region ?_
      refine JL_callF' (Asks.cons (by first | exact holds_of_mem (by repeat (first | with_reducible exact mm0 | refine mmS ?_)) | (exact holds_of_own 2 rfl)) Asks.nil) (awake38_con) rfl ca9 rfl ?_
      rintro _ _ ⟨rfl, rfl⟩
      refine JL_assign rfl ?_
      refine JL_done_up 136 [box _ _ [_, _, _], box _ _ [_, _], osl _ _ _ _ _ _] [_, _, _] rfl rfl (by simp only [nrmF]; rfl) rfl rfl ?_
      refine JC_ret ?_
      refine JE_then_ret ?_
      refine JE_ret (vs := [_]) [] Tryd.results5 ⟨rfl, rfl⟩ ?_ ?_
      · exact ⟨rfl, rfl⟩
      · exact all_nil
  · refine JL_guard_yes rfl rfl ?_
    refine JL_not rfl ?_
    rw [Bool.not_false]
    refine JL_pick_f rfl rfl ?_
    refine JL_move rfl ?_
    refine JL_guard_no rfl rfl ?_
    refine JL_guard_no rfl rfl ?_
    refine JL_guard_no rfl rfl ?_
    refine JL_pick_t rfl rfl ?_
    refine JL_move rfl ?_
    refine JL_guard_no rfl rfl ?_
    refine JL_guard_no rfl rfl ?_
    refine JL_guard_no rfl rfl ?_
    refine JL_pick_t rfl rfl ?_
    refine JL_done_up 136 [box _ _ [_, _, _], box _ _ [_, _], osl _ _ _ _ _ _] [_, _, _] rfl rfl (by simp only [nrmF]; rfl) rfl rfl ?_
    refine JC_true rfl ?_
    refine JC_seq ?_
    refine JC_region ?_
    refine JL_callF' (Asks.cons (by first | exact holds_of_mem (by repeat (first | with_reducible exact mm0 | refine mmS ?_)) | (exact holds_of_own 2 rfl)) Asks.nil) (awake38_con) rfl ca9 rfl ?_
    rintro _ _ ⟨rfl, rfl⟩
    refine JL_assign rfl ?_
    refine JL_done_up 136 [box _ _ [_, _, _], box _ _ [_, _], osl _ _ _ _ _ _] [_, _, _] rfl rfl (by simp only [nrmF]; rfl) rfl rfl ?_
    refine JC_ret ?_
    refine JE_then_ret ?_
    refine JE_ret (vs := [_]) [] Tryd.results5 ⟨rfl, rfl⟩ ?_ ?_
    · exact ⟨rfl, rfl⟩
    · exact all_nil

end Go.Fw.K
