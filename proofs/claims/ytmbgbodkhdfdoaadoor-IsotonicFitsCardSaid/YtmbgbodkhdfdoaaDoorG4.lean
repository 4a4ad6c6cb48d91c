/- Walks through functions of the given program: each meets its contract. (Printed by a program of this repo.) -/
import Derived.Test.YtmbgbodkhdfdoaaDoorG3
import Derived.Test.YtmbgbodkhdfdoaaDoorProg
namespace Go.Fw.G4
open Go Go.RowKit Go.Proofs Go.Nat9 Go.Fw
attribute [local irreducible] JC JL JE
theorem ca41 : callable Tryd.prog 41 = true := by kernel_rfl
theorem ca43 : callable Tryd.prog 43 = true := by kernel_rfl
theorem ca46 : callable Tryd.prog 46 = true := by kernel_rfl
theorem ca55 : callable Tryd.prog 55 = true := by kernel_rfl
theorem ca75 : callable Tryd.prog 75 = true := by kernel_rfl
theorem ca76 : callable Tryd.prog 76 = true := by kernel_rfl
theorem ca98 : callable Tryd.prog 98 = true := by kernel_rfl
theorem fo26_0 : fOf Tryd.prog 26 0 = some 0 := by kernel_rfl
theorem fo26_1 : fOf Tryd.prog 26 1 = some 1 := by kernel_rfl
theorem fo26_2 : fOf Tryd.prog 26 2 = some 2 := by kernel_rfl
theorem mixed : Tryd.prog.follows .mixedOrders = true := by kernel_rfl
theorem st26 : stOf Tryd.prog 26 = some ([(0, 1), (1, 1), (2, 1)], [.bool false, .slice none 0 0, .slice none 0 0]) := by kernel_rfl
theorem ty24 : tyOf Tryd.prog 24 = some (true, 1) := by kernel_rfl
theorem ty26 : tyOf Tryd.prog 26 = some (true, 3) := by kernel_rfl
theorem ty4 : tyOf Tryd.prog 4 = some (false, 1) := by kernel_rfl
theorem z26 : zeroOf Tryd.prog 26 = some [.bool false, .slice none 0 0, .slice none 0 0] := by kernel_rfl
end Go.Fw.G4
namespace Go.Fw.K
open Go Go.RowKit Go.Proofs Go.Nat9 Go.Fw Go.Fw.G4
attribute [local irreducible] JC JL JE

theorem rsubq_con {s1 : Bool} {ad1 : Option Addr} {n1 c1 : Nat} {L1 : List Nat} {be1 : Option Addr} {m1 e1 : Nat} {M1 : List Nat} {q1 : Rat} (g1 : FIn s1 n1 L1 m1 M1 q1 4000000) {s2 : Bool} {ad2 : Option Addr} {n2 c2 : Nat} {L2 : List Nat} {be2 : Option Addr} {m2 e2 : Nat} {M2 : List Nat} {q2 : Rat} (g2 : FIn s2 n2 L2 m2 M2 q2 4000000) :
    ConF Tryd.prog 76 [.agg #[.bool s1, .slice ad1 n1 c1, .slice be1 m1 e1], .agg #[.bool s2, .slice ad2 n2 c2, .slice be2 m2 e2]] [vCells ad1 (u32s L1), vCells be1 (u32s M1), vCells ad2 (u32s L2), vCells be2 (u32s M2)]
      (FO (some (q1 - q2))) := by
  have hq2 := g2.qs.neg.mono (b := 5000000) (by decide)
  refine ConF_of Tryd.func76 rfl 9 _ rfl rfl ?_
  intro w0
  refine JC_norm ⟨9, [], [_, _, _, _, _, _, _, _, _]⟩ [] [_, _, _, _] rfl rfl rfl ?_
  refine JC_seq ?_
  refine JC_region ?_
  refine JL_box rfl rfl (fun b2 => ?_)
  refine JL_box rfl rfl (fun b3 => ?_)
  refine JL_alloc z26 (fun b4 => ?_)
  refine JL_done_up 9 [box _ _ [_, _, _], box _ _ [_, _, _], box _ _ [_, _, _]] [_, _, _, _] rfl rfl (by simp only [nrmF]; rfl) rfl rfl ?_
  refine JC_seq ?_
  refine JC_drawT mixed 3 [spV 5 [] _, spV 6 [] _, spC 7 [1] _] ⟨OblS_V (fun vals ex ψ => (by
      refine JL_normQ ⟨9, [(5, _), (6, _), (7, _)], _⟩ (_ :: _ :: _ :: _ :: ψ) rfl rfl ?_
      refine JL_loadA (vs := [_, _, _]) 0 ty26 rfl rfl ⟨rfl, rfl, rfl, trivial⟩ ?_
      exact JL_nil (JE_stepV rfl ss0))), OblS_V (fun vals ex ψ => (by
      refine JL_normQ ⟨9, [(5, _), (6, _), (7, _)], _⟩ (_ :: _ :: _ :: _ :: ψ) rfl rfl ?_
      refine JL_loadA (vs := [_, _, _]) 1 ty26 rfl rfl ⟨rfl, rfl, rfl, trivial⟩ ?_
      exact JL_nil (JE_stepV rfl ss0))), OblS_C (fun vals ex ψ => (by
      refine JL_normQ ⟨9, [(5, _), (6, _), (7, _)], _⟩ (_ :: _ :: _ :: _ :: ψ) rfl rfl ?_
      refine JL_callF' (Asks.cons (holds_of_mem (by repeat (first | with_reducible exact mm0 | refine mmS ?_))) (Asks.cons (holds_of_mem (by repeat (first | with_reducible exact mm0 | refine mmS ?_))) Asks.nil)) (rneg_con (g2.mono (by omega))) rfl ca98 ⟨rfl, rfl⟩ ?_
      exact fun v φo hP => JL_nil (JE_stepC φo rfl hP (fun p hp => mapB_l hp) (fun p hp => mapB_r (ss0 p hp))))), trivial⟩ (by kernel_rfl) (fun vals bs => ?_)
  refine JL_normL [_, _] ⟨9, [(5, _), (6, _), (7, _)], _⟩ [box _ _ [_, _, _], box _ _ [_, _, _], box _ _ [_, _, _]] [_, _, _, _, _] rfl rfl rfl rfl ?_
  generalize vals (0 + 1 + 1) = x7
  refine JL_usePost mm0 (fun φo hP => ?_)
  obtain ⟨ad7, cp7, be7, ce7, rfl, rfl⟩ := hP
  refine JL_norm _ [box _ _ [_, _, _], box _ _ [_, _, _], box _ _ [_, _, _]] [_, _, _, _, _, _, _] rfl rfl rfl ?_
  refine JL_callF' (Asks.cons (holds_of_mem (by repeat (first | with_reducible exact mm0 | refine mmS ?_))) (Asks.cons (holds_of_mem (by repeat (first | with_reducible exact mm0 | refine mmS ?_))) (Asks.cons (holds_of_mem (by repeat (first | with_reducible exact mm0 | refine mmS ?_))) (Asks.cons (holds_of_mem (by repeat (first | with_reducible exact mm0 | refine mmS ?_))) Asks.nil)))) (raddq_con (g1.mono (by omega)) (FIn.some hq2)) rfl ca41 ⟨rfl, rfl, rfl⟩ ?_
  rintro _ _ ⟨ad8, cp8, be8, ce8, rfl, rfl⟩
  refine JL_store (vs := [_, _, _]) 2 ty26 rfl rfl rfl (AllOne.cons rfl (AllOne.cons rfl (AllOne.cons rfl AllOne.nil))) rfl (Nat.le_of_ble_eq_true rfl) ?_
  refine JL_done_up 9 [box _ _ [_, _, _], box _ _ [_, _, _], box _ _ [_, _, _]] [_, _, _, _, _, _, _, _, _] rfl rfl (by simp only [nrmF]; rfl) rfl rfl ?_
  refine JC_ret ?_
  have he : q1 + -q2 = q1 - q2 := (Rat.sub_eq_add_neg _ _).symm
  rw [he]
  refine JE_ret (vs := [_]) [vCells ad8 (u32s (fnum (some (q1 - q2)))), vCells be8 (u32s (fden (some (q1 - q2))))] Tryd.results76 ⟨RV.cell (vs := [_, _, _]) 2 ty26 rfl rfl ⟨rfl, rfl, rfl, trivial⟩, rfl⟩ ?_ ?_
  · exact ⟨ad8, cp8, be8, ce8, rfl, rfl⟩
  · exact (all_cons (by repeat (first | with_reducible exact mm0 | refine mmS ?_)) (all_cons (by repeat (first | with_reducible exact mm0 | refine mmS ?_)) all_nil))

theorem rcmpq_con {s1 : Bool} {ad1 : Option Addr} {n1 c1 : Nat} {L1 : List Nat} {be1 : Option Addr} {m1 e1 : Nat} {M1 : List Nat} {q1 : Rat} (g1 : FIn s1 n1 L1 m1 M1 q1 1000000) {s2 : Bool} {ad2 : Option Addr} {n2 c2 : Nat} {L2 : List Nat} {be2 : Option Addr} {m2 e2 : Nat} {M2 : List Nat} {q2 : Rat} (g2 : FIn s2 n2 L2 m2 M2 q2 1000000) :
    ConF Tryd.prog 47 [.agg #[.bool s1, .slice ad1 n1 c1, .slice be1 m1 e1], .agg #[.bool s2, .slice ad2 n2 c2, .slice be2 m2 e2]] [vCells ad1 (u32s L1), vCells be1 (u32s M1), vCells ad2 (u32s L2), vCells be2 (u32s M2)]
      (fun v φo => v = .int .i64 (cmpQ q1 q2) ∧ φo = []) := by
  have hq := g1.qs.sub g2.qs (c := 10000000) (by decide)
  refine ConF_of Tryd.func47 rfl 9 _ rfl rfl ?_
  intro w0
  refine JC_norm ⟨9, [], [_, _, _, _, _, _, _, _, _]⟩ [] [_, _, _, _] rfl rfl rfl ?_
  refine JC_seq ?_
  refine JC_region ?_
  refine JL_box rfl rfl (fun b2 => ?_)
  refine JL_box rfl rfl (fun b3 => ?_)
  refine JL_assign rfl ?_
  refine JL_done_up 9 [box _ _ [_, _, _], box _ _ [_, _, _]] [_, _, _, _] rfl rfl (by simp only [nrmF]; rfl) rfl rfl ?_
  refine JC_seq ?_
  refine JC_region ?_
  refine JL_loadA (vs := [_, _, _]) 0 ty26 rfl rfl ⟨rfl, rfl, rfl, trivial⟩ ?_
  refine JL_loadA (vs := [_, _, _]) 1 ty26 rfl rfl ⟨rfl, rfl, rfl, trivial⟩ ?_
  refine JL_callF' (Asks.cons (holds_of_mem (by repeat (first | with_reducible exact mm0 | refine mmS ?_))) (Asks.cons (holds_of_mem (by repeat (first | with_reducible exact mm0 | refine mmS ?_))) (Asks.cons (holds_of_mem (by repeat (first | with_reducible exact mm0 | refine mmS ?_))) (Asks.cons (holds_of_mem (by repeat (first | with_reducible exact mm0 | refine mmS ?_))) Asks.nil)))) (rsubq_con (g1.mono (by omega)) (g2.mono (by omega))) rfl ca76 ⟨rfl, rfl, rfl⟩ ?_
  rintro _ _ ⟨ad7, cp7, be7, ce7, rfl, rfl⟩
  refine JL_callF' (Asks.cons (holds_of_mem (by repeat (first | with_reducible exact mm0 | refine mmS ?_))) (Asks.cons (holds_of_mem (by repeat (first | with_reducible exact mm0 | refine mmS ?_))) Asks.nil)) (rsign_con (FIn.some hq)) rfl ca46 ⟨rfl, rfl⟩ ?_
  rintro _ _ ⟨rfl, rfl⟩
  refine JL_assign rfl ?_
  refine JL_done_up 9 [box _ _ [_, _, _], box _ _ [_, _, _]] [_, _, _, _, _, _] rfl rfl (by simp only [nrmF]; rfl) rfl rfl ?_
  refine JC_ret ?_
  refine JE_ret (vs := [_]) [] Tryd.results47 ⟨rfl, rfl⟩ ?_ ?_
  · exact ⟨by rw [cmpQ_sub]; rfl, rfl⟩
  · exact all_nil

theorem rdivq_con {s1 : Bool} {ad1 : Option Addr} {n1 c1 : Nat} {L1 : List Nat} {be1 : Option Addr} {m1 e1 : Nat} {M1 : List Nat} {q1 : Rat} (g1 : FIn s1 n1 L1 m1 M1 q1 1000000) {s2 : Bool} {ad2 : Option Addr} {n2 c2 : Nat} {L2 : List Nat} {be2 : Option Addr} {m2 e2 : Nat} {M2 : List Nat} {q2 : Rat} (g2 : FIn s2 n2 L2 m2 M2 q2 1000000) :
    ConF Tryd.prog 50 [.agg #[.bool s1, .slice ad1 n1 c1, .slice be1 m1 e1], .agg #[.bool s2, .slice ad2 n2 c2, .slice be2 m2 e2]] [vCells ad1 (u32s L1), vCells be1 (u32s M1), vCells ad2 (u32s L2), vCells be2 (u32s M2)]
      (FOE (dvq q1 q2) (dve q2)) := by
  have hq2 := g2.qs.mono (b := 10000000) (by decide)
  refine ConF_of Tryd.func50 rfl 21 _ rfl rfl ?_
  intro w0
  refine JC_norm ⟨21, [], [_, _, _, _, _, _, _, _, _, _, _, _, _, _, _, _, _, _, _, _, _]⟩ [] [_, _, _, _] rfl rfl rfl ?_
  refine JC_seq ?_
  refine JC_region ?_
  refine JL_box rfl rfl (fun b2 => ?_)
  refine JL_box rfl rfl (fun b3 => ?_)
  refine JL_alloc z26 (fun b4 => ?_)
  refine JL_assign rfl ?_
  refine JL_done_up 21 [box _ _ [_, _, _], box _ _ [_, _, _], box _ _ [_, _, _]] [_, _, _, _] rfl rfl (by simp only [nrmF]; rfl) rfl rfl ?_
  refine JC_seq ?_
  refine JC_region ?_
  refine JL_loadA (vs := [_, _, _]) 1 ty26 rfl rfl ⟨rfl, rfl, rfl, trivial⟩ ?_
  refine JL_callF' (Asks.cons (holds_of_mem (by repeat (first | with_reducible exact mm0 | refine mmS ?_))) (Asks.cons (holds_of_mem (by repeat (first | with_reducible exact mm0 | refine mmS ?_))) Asks.nil)) (rnormq_con (g2.mono (by omega))) rfl ca55 ⟨rfl, rfl⟩ ?_
  rintro _ _ ⟨ad7, cp7, be7, ce7, rfl, rfl⟩
  refine JL_store (vs := [_, _, _]) 1 ty26 rfl rfl rfl (AllOne.cons rfl (AllOne.cons rfl (AllOne.cons rfl AllOne.nil))) rfl (Nat.le_of_ble_eq_true rfl) ?_
  refine JL_done_up 21 [box _ _ [_, _, _], box _ _ [_, _, _], box _ _ [_, _, _]] [_, _, _, _, _, _] rfl rfl (by simp only [nrmF]; rfl) rfl rfl ?_
  refine JC_seq ?_
  refine JC_seq ?_
  refine JC_region ?_
  refine JL_fieldAddr fo26_1 rfl ?_
  refine JL_loadA (vs := [_]) 1 ty24 rfl rfl ⟨rfl, trivial⟩ ?_
  refine JL_callF' (Asks.cons (holds_of_mem (by repeat (first | with_reducible exact mm0 | refine mmS ?_))) Asks.nil) (rzero_con (NIn.num (hq2.mono (by omega)))) rfl ca75 ⟨rfl, rfl⟩ ?_
  rintro _ _ ⟨rfl, rfl⟩
  refine JL_split (fun h10 => ?_) (fun h10 => ?_)
  · have hz : q2 = 0 := num_natAbs_zero h10
    refine JL_done_up 21 [box _ _ [_, _, _], box _ _ [_, _, _], box _ _ [_, _, _]] [_, _, _, _, _, _] rfl rfl (by simp only [nrmF]; rfl) rfl rfl ?_
    refine JC_true rfl ?_
    refine JC_seq ?_
    refine JC_region ?_
    refine JL_build (cs := [_, _, _]) [] st26 rfl rfl ?_
    refine JL_store (vs := [_, _, _]) 2 ty26 rfl rfl rfl (AllOne.cons rfl (AllOne.cons rfl (AllOne.cons rfl AllOne.nil))) rfl (Nat.le_of_ble_eq_true rfl) ?_
    refine JL_assign rfl ?_
    refine JL_done_up 21 [box _ _ [_, _, _], box _ _ [_, _, _], box _ _ [_, _, _]] [_, _, _, _, _, _] rfl rfl (by simp only [nrmF]; rfl) rfl rfl ?_
    refine JC_ret ?_
    refine JE_then_ret ?_
    refine JE_nilView ?_
    refine JE_ret (vs := [_, _]) [vCells none (u32s []), vCells none (u32s [])] Tryd.results50 ⟨RV.cell (vs := [_, _, _]) 2 ty26 rfl rfl ⟨rfl, rfl, rfl, trivial⟩, rfl, rfl⟩ ?_ ?_
    · exact ⟨none, 0, none, 0, by rw [dvq, dve, if_pos hz, if_pos hz]; rfl, by rw [dvq, if_pos hz]; rfl⟩
    · exact (all_cons (by repeat (first | with_reducible exact mm0 | refine mmS ?_)) (all_cons (by repeat (first | with_reducible exact mm0 | refine mmS ?_)) all_nil))
  · have hz : ¬ q2 = 0 := fun h => h10 (by rw [h]; rfl)
    refine JL_done_up 21 [box _ _ [_, _, _], box _ _ [_, _, _], box _ _ [_, _, _]] [_, _, _, _, _, _] rfl rfl (by simp only [nrmF]; rfl) rfl rfl ?_
    refine JC_false rfl ?_
    refine JC_skip ?_
    refine JE_then ?_
    refine JC_seq ?_
    refine JC_region ?_
    refine JL_loadA (vs := [_, _, _]) 0 ty26 rfl rfl ⟨rfl, rfl, rfl, trivial⟩ ?_
    refine JL_fieldAddr fo26_0 rfl ?_
    refine JL_load 1 ty4 rfl rfl rfl ?_
    refine JL_fieldAddr fo26_2 rfl ?_
    refine JL_loadA (vs := [_]) 1 ty24 rfl rfl ⟨rfl, trivial⟩ ?_
    refine JL_fieldAddr fo26_1 rfl ?_
    refine JL_loadA (vs := [_]) 1 ty24 rfl rfl ⟨rfl, trivial⟩ ?_
    refine JL_build (cs := [_, _, _]) [(0, [_]), (1, [_]), (2, [_])] st26 ⟨⟨rfl, _, rfl, rfl⟩, ⟨rfl, _, rfl, rfl⟩, ⟨rfl, _, rfl, rfl⟩, rfl⟩ rfl ?_
    refine JL_callF' (Asks.cons (holds_of_mem (by repeat (first | with_reducible exact mm0 | refine mmS ?_))) (Asks.cons (holds_of_mem (by repeat (first | with_reducible exact mm0 | refine mmS ?_))) (Asks.cons (holds_of_mem (by repeat (first | with_reducible exact mm0 | refine mmS ?_))) (Asks.cons (holds_of_mem (by repeat (first | with_reducible exact mm0 | refine mmS ?_))) Asks.nil)))) (rmulq_con (g1.mono (by omega)) (FIn.inv hq2)) rfl ca43 ⟨rfl, rfl, rfl⟩ ?_
    rintro _ _ ⟨ad20, cp20, be20, ce20, rfl, rfl⟩
    refine JL_store (vs := [_, _, _]) 2 ty26 rfl rfl rfl (AllOne.cons rfl (AllOne.cons rfl (AllOne.cons rfl AllOne.nil))) rfl (Nat.le_of_ble_eq_true rfl) ?_
    refine JL_assign rfl ?_
    refine JL_done_up 21 [box _ _ [_, _, _], box _ _ [_, _, _], box _ _ [_, _, _]] [_, _, _, _, _, _, _, _] rfl rfl (by simp only [nrmF]; rfl) rfl rfl ?_
    refine JC_ret ?_
    have hdv : dvq q1 q2 = some (q1 * q2⁻¹) := by rw [dvq, if_neg hz, Rat.div_def]
    refine JE_ret (vs := [_, _]) [vCells ad20 (u32s (fnum (some (q1 * q2⁻¹)))), vCells be20 (u32s (fden (some (q1 * q2⁻¹))))] Tryd.results50 ⟨RV.cell (vs := [_, _, _]) 2 ty26 rfl rfl ⟨rfl, rfl, rfl, trivial⟩, rfl, rfl⟩ ?_ ?_
    · exact ⟨ad20, cp20, be20, ce20, by rw [hdv, dve, if_neg hz]; rfl, by rw [hdv]⟩
    · exact (all_cons (by repeat (first | with_reducible exact mm0 | refine mmS ?_)) (all_cons (by repeat (first | with_reducible exact mm0 | refine mmS ?_)) all_nil))

end Go.Fw.K
