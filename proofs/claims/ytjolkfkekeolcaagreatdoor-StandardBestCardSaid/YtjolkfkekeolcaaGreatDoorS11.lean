/- Walks through functions of the given program: each meets its contract. (Printed by a program of this repo.) -/
import Derived.Test.YtjolkfkekeolcaaGreatDoorS2
import Derived.Test.YtjolkfkekeolcaaGreatDoorS10
import Derived.Test.YtjolkfkekeolcaaGreatDoorStdG
import Derived.Test.YtjolkfkekeolcaaGreatDoorProg
namespace Go.Fw.S11
open Go Go.RowKit Go.Proofs Go.Nat9 Go.Fw
attribute [local irreducible] JC JL JE
theorem ca34 : callable Tryz.prog 34 = true := by kernel_rfl
theorem ca35 : callable Tryz.prog 35 = true := by kernel_rfl
theorem ca36 : callable Tryz.prog 36 = true := by kernel_rfl
theorem ca38 : callable Tryz.prog 38 = true := by kernel_rfl
theorem ca39 : callable Tryz.prog 39 = true := by kernel_rfl
theorem ca40 : callable Tryz.prog 40 = true := by kernel_rfl
theorem ca63 : callable Tryz.prog 63 = true := by kernel_rfl
theorem ca66 : callable Tryz.prog 66 = true := by kernel_rfl
theorem ca69 : callable Tryz.prog 69 = true := by kernel_rfl
theorem mixed : Tryz.prog.follows .mixedOrders = true := by kernel_rfl
theorem ty26 : tyOf Tryz.prog 26 = some (true, 3) := by kernel_rfl
theorem z26 : zeroOf Tryz.prog 26 = some [.bool false, .slice none 0 0, .slice none 0 0] := by kernel_rfl
end Go.Fw.S11
namespace Go.Fw.K
open Go Go.RowKit Go.Proofs Go.Nat9 Go.Fw Go.Fw.S11
attribute [local irreducible] JC JL JE

theorem rtimes_con (n : Int) (hn : -9223372036854775808 ≤ n ∧ n ≤ 9223372036854775807) {s1 : Bool} {ad1 : Option Addr} {n1 c1 : Nat} {L1 : List Nat} {be1 : Option Addr} {m1 e1 : Nat} {M1 : List Nat} {q1 : Rat} (g1 : FIn s1 n1 L1 m1 M1 q1 100) :
    ConF Tryz.prog 39 [.int .i64 n, .agg #[.bool s1, .slice ad1 n1 c1, .slice be1 m1 e1]] [vCells ad1 (u32s L1), vCells be1 (u32s M1)]
      (FO (some (ofq n 1 * q1))) := by
  have hqn : qs (ofq n 1) 3 := qs_ofi (by omega)
  refine ConF_of Tryz.func39 rfl 9 _ rfl rfl ?_
  intro w0
  refine JC_norm ⟨9, [], [_, _, _, _, _, _, _, _, _]⟩ [] [_, _] rfl rfl rfl ?_
  refine JC_seq ?_
  refine JC_region ?_
  refine JL_box rfl rfl (fun b3 => ?_)
  refine JL_alloc z26 (fun b4 => ?_)
  refine JL_done_up 9 [box _ _ [_, _, _], box _ _ [_, _, _]] [_, _] rfl rfl (by simp only [nrmF]; rfl) rfl rfl ?_
  refine JC_seq ?_
  refine JC_drawT mixed 3 [spV 5 [] _, spC 6 [0] _, spV 7 [] _] ⟨OblS_V (fun vals ex ψ => (by
      refine JL_normQ ⟨9, [(5, _), (6, _), (7, _)], _⟩ (_ :: _ :: ψ) rfl rfl ?_
      refine JL_move rfl ?_
      exact JL_nil (JE_stepV rfl ss0))), OblS_C (fun vals ex ψ => (by
      refine JL_normQ ⟨9, [(5, _), (6, _), (7, _)], _⟩ (_ :: _ :: ψ) rfl rfl ?_
      refine JL_callF' Asks.nil (rofi_con n 1 (by omega) (by omega)) rfl ca38 ⟨rfl, rfl, rfl⟩ ?_
      exact fun v φo hP => JL_nil (JE_stepC φo rfl hP (fun p hp => mapB_l hp) (fun p hp => mapB_r (ss0 p hp))))), OblS_V (fun vals ex ψ => (by
      refine JL_normQ ⟨9, [(5, _), (6, _), (7, _)], _⟩ (_ :: _ :: ψ) rfl rfl ?_
      refine JL_loadA (vs := [_, _, _]) 0 ty26 rfl rfl ⟨rfl, rfl, rfl, trivial⟩ ?_
      exact JL_nil (JE_stepV rfl ss0))), trivial⟩ (by kernel_rfl) (fun vals bs => ?_)
  refine JL_normL [_, _] ⟨9, [(5, _), (6, _), (7, _)], _⟩ [box _ _ [_, _, _], box _ _ [_, _, _]] [_, _, _] rfl rfl rfl rfl ?_
  generalize vals (0 + 1) = x6
  refine JL_usePost mm0 (fun φo hP => ?_)
  obtain ⟨ad6, cp6, be6, ce6, rfl, rfl⟩ := hP
  refine JL_norm _ [box _ _ [_, _, _], box _ _ [_, _, _]] [_, _, _, _, _] rfl rfl rfl ?_
  refine JL_callF' (Asks.cons (holds_of_mem (by repeat (first | with_reducible exact mm0 | refine mmS ?_))) (Asks.cons (holds_of_mem (by repeat (first | with_reducible exact mm0 | refine mmS ?_))) (Asks.cons (holds_of_mem (by repeat (first | with_reducible exact mm0 | refine mmS ?_))) (Asks.cons (holds_of_mem (by repeat (first | with_reducible exact mm0 | refine mmS ?_))) Asks.nil)))) (rmulq_con (FIn.some (hqn.mono (by decide))) (g1.mono (by decide))) rfl ca69 ⟨rfl, rfl, rfl⟩ ?_
  rintro _ _ ⟨ad8, cp8, be8, ce8, rfl, rfl⟩
  refine JL_store (vs := [_, _, _]) 1 ty26 rfl rfl rfl (AllOne.cons rfl (AllOne.cons rfl (AllOne.cons rfl AllOne.nil))) rfl (Nat.le_of_ble_eq_true rfl) ?_
  refine JL_done_up 9 [box _ _ [_, _, _], box _ _ [_, _, _]] [_, _, _, _, _, _, _] rfl rfl (by simp only [nrmF]; rfl) rfl rfl ?_
  refine JC_ret ?_
  refine JE_ret (vs := [_]) [vCells ad8 (u32s (fnum (some (ofq n 1 * q1)))), vCells be8 (u32s (fden (some (ofq n 1 * q1))))] Tryz.results39 ⟨RV.cell (vs := [_, _, _]) 1 ty26 rfl rfl ⟨rfl, rfl, rfl, trivial⟩, rfl⟩ ?_ ?_
  · exact ⟨ad8, cp8, be8, ce8, rfl, rfl⟩
  · exact (all_cons (by repeat (first | with_reducible exact mm0 | refine mmS ?_)) (all_cons (by repeat (first | with_reducible exact mm0 | refine mmS ?_)) all_nil))

theorem rsize_con {s1 : Bool} {ad1 : Option Addr} {n1 c1 : Nat} {L1 : List Nat} {be1 : Option Addr} {m1 e1 : Nat} {M1 : List Nat} {q1 : Rat} (g1 : FIn s1 n1 L1 m1 M1 q1 100) :
    ConF Tryz.prog 41 [.agg #[.bool s1, .slice ad1 n1 c1, .slice be1 m1 e1]] [vCells ad1 (u32s L1), vCells be1 (u32s M1)]
      (FO (some (absq q1))) := by
  refine ConF_of Tryz.func41 rfl 10 _ rfl rfl ?_
  intro w0
  refine JC_norm ⟨10, [], [_, _, _, _, _, _, _, _, _, _]⟩ [] [_, _] rfl rfl rfl ?_
  refine JC_seq ?_
  refine JC_region ?_
  refine JL_box rfl rfl (fun b1 => ?_)
  refine JL_alloc z26 (fun b2 => ?_)
  refine JL_done_up 10 [box _ _ [_, _, _], box _ _ [_, _, _]] [_, _] rfl rfl (by simp only [nrmF]; rfl) rfl rfl ?_
  refine JC_seq ?_
  refine JC_seq ?_
  refine JC_region ?_
  refine JL_loadA (vs := [_, _, _]) 0 ty26 rfl rfl ⟨rfl, rfl, rfl, trivial⟩ ?_
  refine JL_callF' (Asks.cons (holds_of_mem (by repeat (first | with_reducible exact mm0 | refine mmS ?_))) (Asks.cons (holds_of_mem (by repeat (first | with_reducible exact mm0 | refine mmS ?_))) Asks.nil)) (rsign_con (g1.mono (by decide))) rfl ca35 ⟨rfl, rfl⟩ ?_
  rintro _ _ ⟨rfl, rfl⟩
  refine JL_lss rfl rfl ?_
  refine JL_split (fun h5 => ?_) (fun h5 => ?_)
  · refine JL_done_up 10 [box _ _ [_, _, _], box _ _ [_, _, _]] [_, _] rfl rfl (by simp only [nrmF]; rfl) rfl rfl ?_
    refine JC_true rfl ?_
    refine JC_seq ?_
    refine JC_region ?_
    refine JL_loadA (vs := [_, _, _]) 0 ty26 rfl rfl ⟨rfl, rfl, rfl, trivial⟩ ?_
    refine JL_callF' (Asks.cons (holds_of_mem (by repeat (first | with_reducible exact mm0 | refine mmS ?_))) (Asks.cons (holds_of_mem (by repeat (first | with_reducible exact mm0 | refine mmS ?_))) Asks.nil)) (rneg_con (g1.mono (by decide))) rfl ca66 ⟨rfl, rfl⟩ ?_
    rintro _ _ ⟨ad7, cp7, be7, ce7, rfl, rfl⟩
    refine JL_store (vs := [_, _, _]) 1 ty26 rfl rfl rfl (AllOne.cons rfl (AllOne.cons rfl (AllOne.cons rfl AllOne.nil))) rfl (Nat.le_of_ble_eq_true rfl) ?_
    refine JL_done_up 10 [box _ _ [_, _, _], box _ _ [_, _, _]] [_, _, _, _] rfl rfl (by simp only [nrmF]; rfl) rfl rfl ?_
    refine JC_ret ?_
    refine JE_then_ret ?_
    rw [absq_neg h5]
    refine JE_ret (vs := [_]) [vCells ad7 (u32s (fnum (some (-q1)))), vCells be7 (u32s (fden (some (-q1))))] Tryz.results41 ⟨RV.cell (vs := [_, _, _]) 1 ty26 rfl rfl ⟨rfl, rfl, rfl, trivial⟩, rfl⟩ ?_ ?_
    · exact ⟨ad7, cp7, be7, ce7, rfl, rfl⟩
    · exact (all_cons (by repeat (first | with_reducible exact mm0 | refine mmS ?_)) (all_cons (by repeat (first | with_reducible exact mm0 | refine mmS ?_)) all_nil))
  · refine JL_done_up 10 [box _ _ [_, _, _], box _ _ [_, _, _]] [_, _] rfl rfl (by simp only [nrmF]; rfl) rfl rfl ?_
    refine JC_false rfl ?_
    refine JC_skip ?_
    refine JE_then ?_
    refine JC_seq ?_
    refine JC_region ?_
    refine JL_loadA (vs := [_, _, _]) 0 ty26 rfl rfl ⟨rfl, rfl, rfl, trivial⟩ ?_
    refine JL_callF' (Asks.cons (holds_of_mem (by repeat (first | with_reducible exact mm0 | refine mmS ?_))) (Asks.cons (holds_of_mem (by repeat (first | with_reducible exact mm0 | refine mmS ?_))) Asks.nil)) (rnormq_con (g1.mono (by decide))) rfl ca63 ⟨rfl, rfl⟩ ?_
    rintro _ _ ⟨ad9, cp9, be9, ce9, rfl, rfl⟩
    refine JL_store (vs := [_, _, _]) 1 ty26 rfl rfl rfl (AllOne.cons rfl (AllOne.cons rfl (AllOne.cons rfl AllOne.nil))) rfl (Nat.le_of_ble_eq_true rfl) ?_
    refine JL_done_up 10 [box _ _ [_, _, _], box _ _ [_, _, _]] [_, _, _, _] rfl rfl (by simp only [nrmF]; rfl) rfl rfl ?_
    refine JC_ret ?_
    rw [absq_pos h5]
    refine JE_ret (vs := [_]) [vCells ad9 (u32s (fnum (some (q1)))), vCells be9 (u32s (fden (some (q1))))] Tryz.results41 ⟨RV.cell (vs := [_, _, _]) 1 ty26 rfl rfl ⟨rfl, rfl, rfl, trivial⟩, rfl⟩ ?_ ?_
    · exact ⟨ad9, cp9, be9, ce9, rfl, rfl⟩
    · exact (all_cons (by repeat (first | with_reducible exact mm0 | refine mmS ?_)) (all_cons (by repeat (first | with_reducible exact mm0 | refine mmS ?_)) all_nil))

set_option maxHeartbeats 1000000 in
theorem rfits_con {w tol m : Int} {s1 : Bool} {ad1 : Option Addr} {n1 c1 : Nat} {L1 : List Nat} {be1 : Option Addr} {m1 e1 : Nat} {M1 : List Nat} {q1 : Rat} (g1 : FIn s1 n1 L1 m1 M1 q1 10) :
    ConF Tryz.prog 12 [.int .i64 w, .agg #[.bool s1, .slice ad1 n1 c1, .slice be1 m1 e1], .int .i64 tol, .int .i64 m] [vCells ad1 (u32s L1), vCells be1 (u32s M1)]
      (fun v φo => v = .bool (fits38 w q1 tol m) ∧ φo = []) := by
  have hu := g1.qs
  refine ConF_of Tryz.func12 rfl 50 _ rfl rfl ?_
  intro w0
  refine JC_norm ⟨50, [], [_, _, _, _, _, _, _, _, _, _, _, _, _, _, _, _, _, _, _, _, _, _, _, _, _, _, _, _, _, _, _, _, _, _, _, _, _, _, _, _, _, _, _, _, _, _, _, _, _, _]⟩ [] [_, _] rfl rfl rfl ?_
  refine JC_seq ?_
  refine JC_region ?_
  refine JL_box rfl rfl (fun b5 => ?_)
  refine JL_assign rfl ?_
  refine JL_done_up 50 [box _ _ [_, _, _]] [_, _] rfl rfl (by simp only [nrmF]; rfl) rfl rfl ?_
  refine JC_seq ?_
  refine JC_seq ?_
  refine JC_region ?_
  refine JL_move rfl ?_
  refine JL_callF' Asks.nil (rwt_con) rfl ca34 ⟨rfl, rfl⟩ ?_
  rintro _ _ ⟨rfl, rfl⟩
  refine JL_split (fun h12 => ?_) (fun h12 => ?_)
  · refine JL_not rfl ?_
    rw [Bool.not_true]
    refine JL_move rfl ?_
    refine JL_guard_yes rfl rfl ?_
    refine JL_loadA (vs := [_, _, _]) 0 ty26 rfl rfl ⟨rfl, rfl, rfl, trivial⟩ ?_
    refine JL_guard_yes rfl rfl ?_
    refine JL_callF' (Asks.cons (holds_of_mem (by repeat (first | with_reducible exact mm0 | refine mmS ?_))) (Asks.cons (holds_of_mem (by repeat (first | with_reducible exact mm0 | refine mmS ?_))) Asks.nil)) (rsign_con (g1.mono (by decide))) rfl ca35 ⟨rfl, rfl⟩ ?_
    rintro _ _ ⟨rfl, rfl⟩
    refine JL_guard_yes rfl rfl ?_
    refine JL_leq rfl rfl ?_
    refine JL_split (fun h17 => ?_) (fun h17 => ?_)
    · refine JL_pick_f rfl rfl ?_
      refine JL_move rfl ?_
      refine JL_guard_no rfl rfl ?_
      refine JL_guard_no rfl rfl ?_
      refine JL_guard_no rfl rfl ?_
      refine JL_guard_no rfl rfl ?_
      refine JL_pick_t rfl rfl ?_
      refine JL_done_up 50 [box _ _ [_, _, _]] [_, _] rfl rfl (by simp only [nrmF]; rfl) rfl rfl ?_
      refine JC_true rfl ?_
      refine JC_seq ?_
      refine JC_region ?_
      refine JL_assign rfl ?_
      refine JL_done_up 50 [box _ _ [_, _, _]] [_, _] rfl rfl (by simp only [nrmF]; rfl) rfl rfl ?_
      refine JC_ret ?_
      refine JE_then_ret ?_
      refine JE_ret (vs := [_]) [] Tryz.results12 ⟨rfl, rfl⟩ ?_ ?_
      · rw [fits38_bad (.inr (.inl fun e => absurd (sgn_pos.2 e) (by omega)))]; exact ⟨rfl, rfl⟩
      · exact all_nil
    · refine JL_pick_f rfl rfl ?_
      refine JL_move rfl ?_
      refine JL_guard_yes rfl rfl ?_
      refine JL_move rfl ?_
      refine JL_guard_yes rfl rfl ?_
      refine JL_move rfl ?_
      refine JL_guard_yes rfl rfl ?_
      refine JL_callF' Asks.nil (rlim_con) rfl ca36 ⟨rfl, rfl, rfl⟩ ?_
      rintro _ _ ⟨rfl, rfl⟩
      refine JL_split (fun h22 => ?_) (fun h22 => ?_)
      · refine JL_guard_yes rfl rfl ?_
        refine JL_not rfl ?_
        rw [Bool.not_true]
        refine JL_pick_f rfl rfl ?_
        refine JL_done_up 50 [box _ _ [_, _, _]] [_, _] rfl rfl (by simp only [nrmF]; rfl) rfl rfl ?_
        refine JC_false rfl ?_
        refine JC_skip ?_
        refine JE_then ?_
        refine JC_seq ?_
        refine JC_seq ?_
        obtain ⟨⟨ht1, ht2⟩, hm1, hm2⟩ := h22
        obtain ⟨hw1, hw2⟩ := h12
        have hq0 : 0 < q1 := sgn_pos.1 (by omega)
        refine JC_region ?_
        refine JL_assign rfl ?_
        refine JL_done_up 50 [box _ _ [_, _, _]] [_, _] rfl rfl (by simp only [nrmF]; rfl) rfl rfl ?_
        refine JC_block ?_
        refine JC_loopS ((Nat)) (fun (k : Nat) => (1 ≤ k ∧ (k : Int) ≤ m + 1) ∧ miss38 w tol q1 k) (fun (k : Nat) => m.toNat + 1 - k) (fun u (k : Nat) => [none, none, none, none, none, none, none, none, some (u 8), some (.int .i64 (k : Nat)), some (u 10), none, none, none, none, none, none, none, none, none, none, none, none, none, none, some (u 25), some (u 26), some (u 27), some (u 28), some (u 29), some (u 30), some (u 31), some (u 32), some (u 33), some (u 34), some (u 35), some (u 36), some (u 37), some (u 38), some (u 39), some (u 40), some (u 41), some (u 42), some (u 43), some (u 44), some (u 45), some (u 46), some (u 47), some (u 48), some (u 49)]) (fun (k : Nat) => [none]) (fun (k : Nat) => []) (1) (by kernel_rfl) ?_ (by kernel_rfl) ?_ ?_
        · exact ⟨⟨Nat.le_refl _, by omega⟩, miss_one w tol q1⟩
        · exact subset_nil
        intro u k hC
        obtain ⟨⟨hk1, hk2⟩, hms⟩ := hC
        refine JC_norm ⟨50, [], [_, _, _, _, _, _, _, _, _, _, _, _, _, _, _, _, _, _, _, _, _, _, _, _, _, _, _, _, _, _, _, _, _, _, _, _, _, _, _, _, _, _, _, _, _, _, _, _, _, _]⟩ [box _ _ [_, _, _]] [_, _] rfl rfl rfl ?_
        refine JC_seq ?_
        refine JC_seq ?_
        refine JC_region ?_
        refine JL_move rfl ?_
        refine JL_move rfl ?_
        refine JL_leq rfl rfl ?_
        refine JL_split (fun h27 => ?_) (fun h27 => ?_)
        · refine JL_done_up 50 [box _ _ [_, _, _]] [_, _] rfl rfl (by simp only [nrmF]; rfl) rfl rfl ?_
          refine JC_true rfl ?_
          refine JC_skip ?_
          refine JE_then ?_
          refine JC_seq ?_
          refine JC_block ?_
          refine JC_seq ?_
          have hqk : qs (ofq ((k : Nat) : Int) 1) 3 := qs_ofi (by omega)
          have hqkq : qs (ofq ((k : Nat) : Int) 1 * q1) 14 := hqk.mul hu (Nat.le_refl 14)
          have hmx := mxo_in (a := w - tol) (b := 200000) (by omega) (by omega)
          have hqlo : qs (ofq (mxo (w - tol)) 1) 3 := qs_ofi (by omega)
          have hqhi : qs (ofq (w + tol) 1) 3 := qs_ofi (by omega)
          refine JC_region ?_
          refine JL_move rfl ?_
          refine JL_loadA (vs := [_, _, _]) 0 ty26 rfl rfl ⟨rfl, rfl, rfl, trivial⟩ ?_
          refine JL_callF' (Asks.cons (holds_of_mem (by repeat (first | with_reducible exact mm0 | refine mmS ?_))) (Asks.cons (holds_of_mem (by repeat (first | with_reducible exact mm0 | refine mmS ?_))) Asks.nil)) (rtimes_con ((k : Nat) : Int) (by omega) (g1.mono (by decide))) rfl ca39 ⟨rfl, rfl, rfl⟩ ?_
          rintro _ _ ⟨ad32, cp32, be32, ce32, rfl, rfl⟩
          refine JL_alloc z26 (fun b10 => ?_)
          refine JL_store (vs := [_, _, _]) 1 ty26 rfl rfl rfl (AllOne.cons rfl (AllOne.cons rfl (AllOne.cons rfl AllOne.nil))) rfl (Nat.le_of_ble_eq_true rfl) ?_
          refine JL_done_up 50 [box _ _ [_, _, _], box _ _ [_, _, _]] [_, _, _, _] rfl rfl (by simp only [nrmF]; rfl) rfl rfl ?_
          refine JC_seq ?_
          by_cases hlo : (ofq (mxo (w - tol)) 1) ≤ (ofq ((k : Nat) : Int) 1 * q1)
          · refine JC_drawT mixed 14 [spV 33 [] _, spV 34 [] _, spV 35 [] _, spV 36 [1, 2] _, spV 37 [3] _, spC 38 [4] _, spC 39 [0, 5] _, spV 40 [6] _, spV 41 [7] _, spV 42 [8] _, spV 43 [8] _, spV 44 [8] _, spV 45 [8, 10, 11] _, spC 46 [8, 12] _] ⟨OblS_V (fun vals ex ψ => (by
                refine JL_normQ ⟨50, [(33, _), (34, _), (35, _), (36, _), (37, _), (38, _), (39, _), (40, _), (41, _), (42, _), (43, _), (44, _), (45, _), (46, _)], _⟩ (_ :: _ :: _ :: _ :: ψ) rfl rfl ?_
                refine JL_loadA (vs := [_, _, _]) 1 ty26 rfl rfl ⟨rfl, rfl, rfl, trivial⟩ ?_
                exact JL_nil (JE_stepV rfl ss0))), OblS_V (fun vals ex ψ => (by
                refine JL_normQ ⟨50, [(33, _), (34, _), (35, _), (36, _), (37, _), (38, _), (39, _), (40, _), (41, _), (42, _), (43, _), (44, _), (45, _), (46, _)], _⟩ (_ :: _ :: _ :: _ :: ψ) rfl rfl ?_
                refine JL_move rfl ?_
                exact JL_nil (JE_stepV rfl ss0))), OblS_V (fun vals ex ψ => (by
                refine JL_normQ ⟨50, [(33, _), (34, _), (35, _), (36, _), (37, _), (38, _), (39, _), (40, _), (41, _), (42, _), (43, _), (44, _), (45, _), (46, _)], _⟩ (_ :: _ :: _ :: _ :: ψ) rfl rfl ?_
                refine JL_move rfl ?_
                exact JL_nil (JE_stepV rfl ss0))), OblS_V (fun vals ex ψ => (by
                refine JL_normQ ⟨50, [(33, _), (34, _), (35, _), (36, _), (37, _), (38, _), (39, _), (40, _), (41, _), (42, _), (43, _), (44, _), (45, _), (46, _)], _⟩ (_ :: _ :: _ :: _ :: ψ) rfl rfl ?_
                refine JL_sub_to rfl rfl (IntWalk.i64_in _ (by omega)) ?_
                exact JL_nil (JE_stepV rfl ss0))), OblS_V (fun vals ex ψ => (by
                refine JL_normQ ⟨50, [(33, _), (34, _), (35, _), (36, _), (37, _), (38, _), (39, _), (40, _), (41, _), (42, _), (43, _), (44, _), (45, _), (46, _)], _⟩ (_ :: _ :: _ :: _ :: ψ) rfl rfl ?_
                refine JL_max rfl rfl ?_
                rw [show (if w - tol < 1 then (1 : Int) else w - tol) = mxo (w - tol) from rfl]
                exact JL_nil (JE_stepV rfl ss0))), OblS_C (fun vals ex ψ => (by
                refine JL_normQ ⟨50, [(33, _), (34, _), (35, _), (36, _), (37, _), (38, _), (39, _), (40, _), (41, _), (42, _), (43, _), (44, _), (45, _), (46, _)], _⟩ (_ :: _ :: _ :: _ :: ψ) rfl rfl ?_
                refine JL_callF' Asks.nil (rofi_con (mxo (w - tol)) 1 (by omega) (by omega)) rfl ca38 ⟨rfl, rfl, rfl⟩ ?_
                exact fun v φo hP => JL_nil (JE_stepC φo rfl hP (fun p hp => mapB_l hp) (fun p hp => mapB_r (ss0 p hp))))), OblS_C (fun vals ex ψ => (by
                refine JL_normQ ⟨50, [(33, _), (34, _), (35, _), (36, _), (37, _), (38, _), (39, _), (40, _), (41, _), (42, _), (43, _), (44, _), (45, _), (46, _)], _⟩ (_ :: _ :: _ :: _ :: _ :: ψ) rfl rfl ?_
                generalize vals 5 = x38
                refine JL_usePost mm0 (fun φo hP => ?_)
                obtain ⟨ad38, cp38, be38, ce38, rfl, rfl⟩ := hP
                refine JL_norm _ _ (_ :: _ :: _ :: _ :: _ :: _ :: _ :: ψ) rfl rfl rfl ?_
                refine JL_callF' (Asks.cons (holds_of_mem (by repeat (first | with_reducible exact mm0 | refine mmS ?_))) (Asks.cons (holds_of_mem (by repeat (first | with_reducible exact mm0 | refine mmS ?_))) (Asks.cons (holds_of_mem (by repeat (first | with_reducible exact mm0 | refine mmS ?_))) (Asks.cons (holds_of_mem (by repeat (first | with_reducible exact mm0 | refine mmS ?_))) Asks.nil)))) (rcmpq_con (FIn.some (hqkq.mono (by decide))) (FIn.some (hqlo.mono (by decide)))) rfl ca40 ⟨rfl, rfl, rfl⟩ ?_
                exact fun v φo hP => JL_nil (JE_stepC φo rfl hP (fun p hp => mapB_l hp) (fun p hp => mapB_r ((ssS (ssS ss0)) p hp))))), OblS_V (fun vals ex ψ => (by
                refine JL_normQ ⟨50, [(33, _), (34, _), (35, _), (36, _), (37, _), (38, _), (39, _), (40, _), (41, _), (42, _), (43, _), (44, _), (45, _), (46, _)], _⟩ (_ :: _ :: _ :: _ :: _ :: ψ) rfl rfl ?_
                generalize vals 6 = x39
                refine JL_usePost mm0 (fun φo hP => ?_)
                obtain ⟨rfl, rfl⟩ := hP
                refine JL_norm _ _ (_ :: _ :: _ :: _ :: _ :: ψ) rfl rfl rfl ?_
                refine JL_geq rfl rfl ?_
                rw [decide_eq_true (p := (0 : Int) ≤ cmpQ (ofq ((k : Nat) : Int) 1 * q1) (ofq (mxo (w - tol)) 1)) (cmpQ_ge.2 hlo)]
                exact JL_nil (JE_stepV rfl ss0))), OblS_V (fun vals ex ψ => (by
                refine JL_normQ ⟨50, [(33, _), (34, _), (35, _), (36, _), (37, _), (38, _), (39, _), (40, _), (41, _), (42, _), (43, _), (44, _), (45, _), (46, _)], _⟩ (_ :: _ :: _ :: _ :: ψ) rfl rfl ?_
                refine JL_move rfl ?_
                exact JL_nil (JE_stepV rfl ss0))), OblS_V (fun vals ex ψ => (by
                refine JL_normQ ⟨50, [(33, _), (34, _), (35, _), (36, _), (37, _), (38, _), (39, _), (40, _), (41, _), (42, _), (43, _), (44, _), (45, _), (46, _)], _⟩ (_ :: _ :: _ :: _ :: ψ) rfl rfl ?_
                refine JL_guard_yes rfl rfl ?_
                refine JL_loadA (vs := [_, _, _]) 1 ty26 rfl rfl ⟨rfl, rfl, rfl, trivial⟩ ?_
                exact JL_nil (JE_stepV rfl ss0))), OblS_V (fun vals ex ψ => (by
                refine JL_normQ ⟨50, [(33, _), (34, _), (35, _), (36, _), (37, _), (38, _), (39, _), (40, _), (41, _), (42, _), (43, _), (44, _), (45, _), (46, _)], _⟩ (_ :: _ :: _ :: _ :: ψ) rfl rfl ?_
                refine JL_guard_yes rfl rfl ?_
                refine JL_move rfl ?_
                exact JL_nil (JE_stepV rfl ss0))), OblS_V (fun vals ex ψ => (by
                refine JL_normQ ⟨50, [(33, _), (34, _), (35, _), (36, _), (37, _), (38, _), (39, _), (40, _), (41, _), (42, _), (43, _), (44, _), (45, _), (46, _)], _⟩ (_ :: _ :: _ :: _ :: ψ) rfl rfl ?_
                refine JL_guard_yes rfl rfl ?_
                refine JL_move rfl ?_
                exact JL_nil (JE_stepV rfl ss0))), OblS_V (fun vals ex ψ => (by
                refine JL_normQ ⟨50, [(33, _), (34, _), (35, _), (36, _), (37, _), (38, _), (39, _), (40, _), (41, _), (42, _), (43, _), (44, _), (45, _), (46, _)], _⟩ (_ :: _ :: _ :: _ :: ψ) rfl rfl ?_
                refine JL_guard_yes rfl rfl ?_
                refine JL_add_to rfl rfl (IntWalk.i64_in _ (by omega)) ?_
                exact JL_nil (JE_stepV rfl ss0))), OblS_C (fun vals ex ψ => (by
                refine JL_normQ ⟨50, [(33, _), (34, _), (35, _), (36, _), (37, _), (38, _), (39, _), (40, _), (41, _), (42, _), (43, _), (44, _), (45, _), (46, _)], _⟩ (_ :: _ :: _ :: _ :: ψ) rfl rfl ?_
                refine JL_guard_yes rfl rfl ?_
                refine JL_callF' Asks.nil (rofi_con (w + tol) 1 (by omega) (by omega)) rfl ca38 ⟨rfl, rfl, rfl⟩ ?_
                exact fun v φo hP => JL_nil (JE_stepC φo rfl hP (fun p hp => mapB_l hp) (fun p hp => mapB_r (ss0 p hp))))), trivial⟩ (by kernel_rfl) (fun vals bs => ?_)
            refine JL_normL [_, _, _] ⟨50, [(33, _), (34, _), (35, _), (36, _), (37, _), (38, _), (39, _), (40, _), (41, _), (42, _), (43, _), (44, _), (45, _), (46, _)], _⟩ [box _ _ [_, _, _], box _ _ [_, _, _]] [_, _, _, _, _, _, _] rfl rfl rfl rfl ?_
            generalize vals (0 + 1 + 1 + 1 + 1 + 1) = x38
            generalize vals (0 + 1 + 1 + 1 + 1 + 1 + 1) = x39
            generalize vals (0 + 1 + 1 + 1 + 1 + 1 + 1 + 1 + 1 + 1 + 1 + 1 + 1 + 1) = x46
            refine JL_usePost (mmS (mmS mm0)) (fun φo hP => ?_)
            obtain ⟨ad46, cp46, be46, ce46, rfl, rfl⟩ := hP
            refine JL_norm _ [box _ _ [_, _, _], box _ _ [_, _, _]] [_, _, _, _, _, _, _, _, _] rfl rfl rfl ?_
            refine JL_guard_yes rfl rfl ?_
            refine JL_callF' (Asks.cons (holds_of_mem (by repeat (first | with_reducible exact mm0 | refine mmS ?_))) (Asks.cons (holds_of_mem (by repeat (first | with_reducible exact mm0 | refine mmS ?_))) (Asks.cons (holds_of_mem (by repeat (first | with_reducible exact mm0 | refine mmS ?_))) (Asks.cons (holds_of_mem (by repeat (first | with_reducible exact mm0 | refine mmS ?_))) Asks.nil)))) (rcmpq_con (FIn.some (hqkq.mono (by decide))) (FIn.some (hqhi.mono (by decide)))) rfl ca40 ⟨rfl, rfl, rfl⟩ ?_
            rintro _ _ ⟨rfl, rfl⟩
            refine JL_guard_yes rfl rfl ?_
            refine JL_leq rfl rfl ?_
            refine JL_pick_t rfl rfl ?_
            refine JL_done_up 50 [box _ _ [_, _, _], box _ _ [_, _, _]] [_, _, _, _, _, _, _, _, _] rfl rfl (by simp only [nrmF]; rfl) rfl rfl ?_
            refine JC_cond rfl (fun hb => ?_) (fun hb => ?_)
            · have h49 := of_decide_eq_true hb
              refine JC_seq ?_
              refine JC_region ?_
              refine JL_assign rfl ?_
              refine JL_done_up 50 [box _ _ [_, _, _], box _ _ [_, _, _]] [_, _, _, _, _, _, _, _, _] rfl rfl (by simp only [nrmF]; rfl) rfl rfl ?_
              refine JC_ret ?_
              refine JE_block_ret ?_
              refine JE_then_ret ?_
              refine JE_nextS_ret ?_
              refine JE_block_ret ?_
              refine JE_then_ret ?_
              refine JE_ret (vs := [_]) [] Tryz.results12 ⟨rfl, rfl⟩ ?_ ?_
              · rw [fits_hit ⟨hw1, hw2⟩ ⟨⟨ht1, ht2⟩, hm1, hm2⟩ hq0 hk1 (by omega) hlo (cmpQ_le.1 h49)]; exact ⟨rfl, rfl⟩
              · exact all_nil
            · have h49 := of_decide_eq_false hb
              refine JC_skip ?_
              refine JE_block_normal ?_
              refine JE_then ?_
              refine JC_region ?_
              refine JL_move rfl ?_
              refine JL_add_to rfl rfl (IntWalk.i64_in _ (by omega)) ?_
              refine JL_assign rfl ?_
              refine JL_nil_up 50 [box _ _ [_, _, _], box _ _ [_, _, _]] [_, _, _, _, _, _, _, _, _] rfl rfl (by simp only [nrmF]; rfl) rfl rfl ?_
              refine JE_dropAt 1 ?_
              refine JE_norm _ [box _ _ [_, _, _]] [_, _, _, _, _, _, _, _, _] rfl rfl rfl ?_
              refine JE_nextS (k + 1) (by kernel_rfl) ?_ ?_ (by kernel_rfl) ?_
              · exact ⟨⟨by omega, by omega⟩, miss_next hms (fun e => h49 (cmpQ_le.2 e.2))⟩
              · first | omega | (dsimp only; omega)
              · exact subset_app subset_nil (ssS (ssS (ssS (ssS (ssS (ssS (ssS ss0)))))))
          · refine JC_drawT mixed 14 [spV 33 [] _, spV 34 [] _, spV 35 [] _, spV 36 [1, 2] _, spV 37 [3] _, spC 38 [4] _, spC 39 [0, 5] _, spV 40 [6] _, spV 41 [7] _, spV 42 [8] _, spV 43 [8] _, spV 44 [8] _, spV 45 [8, 10, 11] _, spV 46 [8, 12] _] ⟨OblS_V (fun vals ex ψ => (by
                refine JL_normQ ⟨50, [(33, _), (34, _), (35, _), (36, _), (37, _), (38, _), (39, _), (40, _), (41, _), (42, _), (43, _), (44, _), (45, _), (46, _)], _⟩ (_ :: _ :: _ :: _ :: ψ) rfl rfl ?_
                refine JL_loadA (vs := [_, _, _]) 1 ty26 rfl rfl ⟨rfl, rfl, rfl, trivial⟩ ?_
                exact JL_nil (JE_stepV rfl ss0))), OblS_V (fun vals ex ψ => (by
                refine JL_normQ ⟨50, [(33, _), (34, _), (35, _), (36, _), (37, _), (38, _), (39, _), (40, _), (41, _), (42, _), (43, _), (44, _), (45, _), (46, _)], _⟩ (_ :: _ :: _ :: _ :: ψ) rfl rfl ?_
                refine JL_move rfl ?_
                exact JL_nil (JE_stepV rfl ss0))), OblS_V (fun vals ex ψ => (by
                refine JL_normQ ⟨50, [(33, _), (34, _), (35, _), (36, _), (37, _), (38, _), (39, _), (40, _), (41, _), (42, _), (43, _), (44, _), (45, _), (46, _)], _⟩ (_ :: _ :: _ :: _ :: ψ) rfl rfl ?_
                refine JL_move rfl ?_
                exact JL_nil (JE_stepV rfl ss0))), OblS_V (fun vals ex ψ => (by
                refine JL_normQ ⟨50, [(33, _), (34, _), (35, _), (36, _), (37, _), (38, _), (39, _), (40, _), (41, _), (42, _), (43, _), (44, _), (45, _), (46, _)], _⟩ (_ :: _ :: _ :: _ :: ψ) rfl rfl ?_
                refine JL_sub_to rfl rfl (IntWalk.i64_in _ (by omega)) ?_
                exact JL_nil (JE_stepV rfl ss0))), OblS_V (fun vals ex ψ => (by
                refine JL_normQ ⟨50, [(33, _), (34, _), (35, _), (36, _), (37, _), (38, _), (39, _), (40, _), (41, _), (42, _), (43, _), (44, _), (45, _), (46, _)], _⟩ (_ :: _ :: _ :: _ :: ψ) rfl rfl ?_
                refine JL_max rfl rfl ?_
                rw [show (if w - tol < 1 then (1 : Int) else w - tol) = mxo (w - tol) from rfl]
                exact JL_nil (JE_stepV rfl ss0))), OblS_C (fun vals ex ψ => (by
                refine JL_normQ ⟨50, [(33, _), (34, _), (35, _), (36, _), (37, _), (38, _), (39, _), (40, _), (41, _), (42, _), (43, _), (44, _), (45, _), (46, _)], _⟩ (_ :: _ :: _ :: _ :: ψ) rfl rfl ?_
                refine JL_callF' Asks.nil (rofi_con (mxo (w - tol)) 1 (by omega) (by omega)) rfl ca38 ⟨rfl, rfl, rfl⟩ ?_
                exact fun v φo hP => JL_nil (JE_stepC φo rfl hP (fun p hp => mapB_l hp) (fun p hp => mapB_r (ss0 p hp))))), OblS_C (fun vals ex ψ => (by
                refine JL_normQ ⟨50, [(33, _), (34, _), (35, _), (36, _), (37, _), (38, _), (39, _), (40, _), (41, _), (42, _), (43, _), (44, _), (45, _), (46, _)], _⟩ (_ :: _ :: _ :: _ :: _ :: ψ) rfl rfl ?_
                generalize vals 5 = x38
                refine JL_usePost mm0 (fun φo hP => ?_)
                obtain ⟨ad38, cp38, be38, ce38, rfl, rfl⟩ := hP
                refine JL_norm _ _ (_ :: _ :: _ :: _ :: _ :: _ :: _ :: ψ) rfl rfl rfl ?_
                refine JL_callF' (Asks.cons (holds_of_mem (by repeat (first | with_reducible exact mm0 | refine mmS ?_))) (Asks.cons (holds_of_mem (by repeat (first | with_reducible exact mm0 | refine mmS ?_))) (Asks.cons (holds_of_mem (by repeat (first | with_reducible exact mm0 | refine mmS ?_))) (Asks.cons (holds_of_mem (by repeat (first | with_reducible exact mm0 | refine mmS ?_))) Asks.nil)))) (rcmpq_con (FIn.some (hqkq.mono (by decide))) (FIn.some (hqlo.mono (by decide)))) rfl ca40 ⟨rfl, rfl, rfl⟩ ?_
                exact fun v φo hP => JL_nil (JE_stepC φo rfl hP (fun p hp => mapB_l hp) (fun p hp => mapB_r ((ssS (ssS ss0)) p hp))))), OblS_V (fun vals ex ψ => (by
                refine JL_normQ ⟨50, [(33, _), (34, _), (35, _), (36, _), (37, _), (38, _), (39, _), (40, _), (41, _), (42, _), (43, _), (44, _), (45, _), (46, _)], _⟩ (_ :: _ :: _ :: _ :: _ :: ψ) rfl rfl ?_
                generalize vals 6 = x39
                refine JL_usePost mm0 (fun φo hP => ?_)
                obtain ⟨rfl, rfl⟩ := hP
                refine JL_norm _ _ (_ :: _ :: _ :: _ :: _ :: ψ) rfl rfl rfl ?_
                refine JL_geq rfl rfl ?_
                rw [decide_eq_false (p := (0 : Int) ≤ cmpQ (ofq ((k : Nat) : Int) 1 * q1) (ofq (mxo (w - tol)) 1)) (fun e => hlo (cmpQ_ge.1 e))]
                exact JL_nil (JE_stepV rfl ss0))), OblS_V (fun vals ex ψ => (by
                refine JL_normQ ⟨50, [(33, _), (34, _), (35, _), (36, _), (37, _), (38, _), (39, _), (40, _), (41, _), (42, _), (43, _), (44, _), (45, _), (46, _)], _⟩ (_ :: _ :: _ :: _ :: ψ) rfl rfl ?_
                refine JL_move rfl ?_
                exact JL_nil (JE_stepV rfl ss0))), OblS_V (fun vals ex ψ => (by
                refine JL_normQ ⟨50, [(33, _), (34, _), (35, _), (36, _), (37, _), (38, _), (39, _), (40, _), (41, _), (42, _), (43, _), (44, _), (45, _), (46, _)], _⟩ (_ :: _ :: _ :: _ :: ψ) rfl rfl ?_
                refine JL_guard_no rfl rfl ?_
                exact JL_nil (JE_stepV rfl ss0))), OblS_V (fun vals ex ψ => (by
                refine JL_normQ ⟨50, [(33, _), (34, _), (35, _), (36, _), (37, _), (38, _), (39, _), (40, _), (41, _), (42, _), (43, _), (44, _), (45, _), (46, _)], _⟩ (_ :: _ :: _ :: _ :: ψ) rfl rfl ?_
                refine JL_guard_no rfl rfl ?_
                exact JL_nil (JE_stepV rfl ss0))), OblS_V (fun vals ex ψ => (by
                refine JL_normQ ⟨50, [(33, _), (34, _), (35, _), (36, _), (37, _), (38, _), (39, _), (40, _), (41, _), (42, _), (43, _), (44, _), (45, _), (46, _)], _⟩ (_ :: _ :: _ :: _ :: ψ) rfl rfl ?_
                refine JL_guard_no rfl rfl ?_
                exact JL_nil (JE_stepV rfl ss0))), OblS_V (fun vals ex ψ => (by
                refine JL_normQ ⟨50, [(33, _), (34, _), (35, _), (36, _), (37, _), (38, _), (39, _), (40, _), (41, _), (42, _), (43, _), (44, _), (45, _), (46, _)], _⟩ (_ :: _ :: _ :: _ :: ψ) rfl rfl ?_
                refine JL_guard_no rfl rfl ?_
                exact JL_nil (JE_stepV rfl ss0))), OblS_V (fun vals ex ψ => (by
                refine JL_normQ ⟨50, [(33, _), (34, _), (35, _), (36, _), (37, _), (38, _), (39, _), (40, _), (41, _), (42, _), (43, _), (44, _), (45, _), (46, _)], _⟩ (_ :: _ :: _ :: _ :: ψ) rfl rfl ?_
                refine JL_guard_no rfl rfl ?_
                exact JL_nil (JE_stepV rfl ss0))), trivial⟩ (by kernel_rfl) (fun vals bs => ?_)
            refine JL_normL [_, _, _] ⟨50, [(33, _), (34, _), (35, _), (36, _), (37, _), (38, _), (39, _), (40, _), (41, _), (42, _), (43, _), (44, _), (45, _), (46, _)], _⟩ [box _ _ [_, _, _], box _ _ [_, _, _]] [_, _, _, _, _, _] rfl rfl rfl rfl ?_
            generalize vals (0 + 1 + 1 + 1 + 1 + 1) = x38
            generalize vals (0 + 1 + 1 + 1 + 1 + 1 + 1) = x39
            refine JL_guard_no rfl rfl ?_
            refine JL_guard_no rfl rfl ?_
            refine JL_pick_f rfl rfl ?_
            refine JL_done_up 50 [box _ _ [_, _, _], box _ _ [_, _, _]] [_, _, _, _, _, _] rfl rfl (by simp only [nrmF]; rfl) rfl rfl ?_
            refine JC_false rfl ?_
            refine JC_skip ?_
            refine JE_block_normal ?_
            refine JE_then ?_
            refine JC_region ?_
            refine JL_move rfl ?_
            refine JL_add_to rfl rfl (IntWalk.i64_in _ (by omega)) ?_
            refine JL_assign rfl ?_
            refine JL_nil_up 50 [box _ _ [_, _, _], box _ _ [_, _, _]] [_, _, _, _, _, _] rfl rfl (by simp only [nrmF]; rfl) rfl rfl ?_
            refine JE_dropAt 1 ?_
            refine JE_norm _ [box _ _ [_, _, _]] [_, _, _, _, _, _] rfl rfl rfl ?_
            refine JE_nextS (k + 1) (by kernel_rfl) ?_ ?_ (by kernel_rfl) ?_
            · exact ⟨⟨by omega, by omega⟩, miss_next hms (fun e => hlo e.1)⟩
            · first | omega | (dsimp only; omega)
            · exact subset_app subset_nil (ssS (ssS (ssS (ssS ss0))))
        · refine JL_done_up 50 [box _ _ [_, _, _]] [_, _] rfl rfl (by simp only [nrmF]; rfl) rfl rfl ?_
          refine JC_false rfl ?_
          refine JC_exit ?_
          refine JE_then_exit ?_
          refine JE_nextS_exit ?_
          refine JE_block_exit ?_
          refine JE_then ?_
          refine JC_seq ?_
          refine JC_region ?_
          refine JL_assign rfl ?_
          refine JL_done_up 50 [box _ _ [_, _, _]] [_, _] rfl rfl (by simp only [nrmF]; rfl) rfl rfl ?_
          refine JC_ret ?_
          refine JE_ret (vs := [_]) [] Tryz.results12 ⟨rfl, rfl⟩ ?_ ?_
          · rw [fits_miss ⟨hw1, hw2⟩ ⟨⟨ht1, ht2⟩, hm1, hm2⟩ hq0 hms (by omega)]; exact ⟨rfl, rfl⟩
          · exact all_nil
      · refine JL_guard_yes rfl rfl ?_
        refine JL_not rfl ?_
        rw [Bool.not_false]
        refine JL_pick_f rfl rfl ?_
        refine JL_done_up 50 [box _ _ [_, _, _]] [_, _] rfl rfl (by simp only [nrmF]; rfl) rfl rfl ?_
        refine JC_true rfl ?_
        refine JC_seq ?_
        refine JC_region ?_
        refine JL_assign rfl ?_
        refine JL_done_up 50 [box _ _ [_, _, _]] [_, _] rfl rfl (by simp only [nrmF]; rfl) rfl rfl ?_
        refine JC_ret ?_
        refine JE_then_ret ?_
        refine JE_ret (vs := [_]) [] Tryz.results12 ⟨rfl, rfl⟩ ?_ ?_
        · rw [fits38_bad (.inr (.inr h22))]; exact ⟨rfl, rfl⟩
        · exact all_nil
  · refine JL_not rfl ?_
    rw [Bool.not_false]
    refine JL_move rfl ?_
    refine JL_guard_no rfl rfl ?_
    refine JL_guard_no rfl rfl ?_
    refine JL_guard_no rfl rfl ?_
    refine JL_pick_t rfl rfl ?_
    refine JL_move rfl ?_
    refine JL_guard_no rfl rfl ?_
    refine JL_guard_no rfl rfl ?_
    refine JL_guard_no rfl rfl ?_
    refine JL_guard_no rfl rfl ?_
    refine JL_pick_t rfl rfl ?_
    refine JL_done_up 50 [box _ _ [_, _, _]] [_, _] rfl rfl (by simp only [nrmF]; rfl) rfl rfl ?_
    refine JC_true rfl ?_
    refine JC_seq ?_
    refine JC_region ?_
    refine JL_assign rfl ?_
    refine JL_done_up 50 [box _ _ [_, _, _]] [_, _] rfl rfl (by simp only [nrmF]; rfl) rfl rfl ?_
    refine JC_ret ?_
    refine JE_then_ret ?_
    refine JE_ret (vs := [_]) [] Tryz.results12 ⟨rfl, rfl⟩ ?_ ?_
    · rw [fits38_bad (.inl h12)]; exact ⟨rfl, rfl⟩
    · exact all_nil

end Go.Fw.K
