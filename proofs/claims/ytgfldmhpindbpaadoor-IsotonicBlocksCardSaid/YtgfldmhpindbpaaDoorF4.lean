/- Walks through functions of the given program: each meets its contract. (Printed by a program of this repo.) -/
import Derived.Test.YtgfldmhpindbpaaDoorF3
import Derived.Test.YtgfldmhpindbpaaDoorProg
namespace Go.Fw.F4
open Go Go.RowKit Go.Proofs Go.Nat9 Go.Fw
attribute [local irreducible] JC JL JE
theorem ca15 : callable Tryd.prog 15 = true := by kernel_rfl
theorem ca20 : callable Tryd.prog 20 = true := by kernel_rfl
theorem mixed : Tryd.prog.follows .mixedOrders = true := by kernel_rfl
theorem ty36 : tyOf Tryd.prog 36 = some (true, 3) := by kernel_rfl
theorem z36 : zeroOf Tryd.prog 36 = some [.bool false, .slice none 0 0, .slice none 0 0] := by kernel_rfl
end Go.Fw.F4
namespace Go.Fw.K
open Go Go.RowKit Go.Proofs Go.Nat9 Go.Fw Go.Fw.F4
attribute [local irreducible] JC JL JE

theorem fsubq_con {s1 : Bool} {ad1 : Option Addr} {n1 c1 : Nat} {L1 : List Nat} {be1 : Option Addr} {m1 e1 : Nat} {M1 : List Nat} {q1 : Rat} (g1 : FIn s1 n1 L1 m1 M1 q1 4000000) {s2 : Bool} {ad2 : Option Addr} {n2 c2 : Nat} {L2 : List Nat} {be2 : Option Addr} {m2 e2 : Nat} {M2 : List Nat} {q2 : Rat} (g2 : FIn s2 n2 L2 m2 M2 q2 4000000) :
    ConF Tryd.prog 43 [.agg #[.bool s1, .slice ad1 n1 c1, .slice be1 m1 e1], .agg #[.bool s2, .slice ad2 n2 c2, .slice be2 m2 e2]] [vCells ad1 (u32s L1), vCells be1 (u32s M1), vCells ad2 (u32s L2), vCells be2 (u32s M2)]
      (FO (some (q1 - q2))) := by
  have hq2 := g2.qs.neg.mono (b := 5000000) (by decide)
  refine ConF_of Tryd.func43 rfl 9 _ rfl rfl ?_
  intro w0
  refine JC_norm ⟨9, [], [_, _, _, _, _, _, _, _, _]⟩ [] [_, _, _, _] rfl rfl rfl ?_
  refine JC_seq ?_
  refine JC_region ?_
  refine JL_box rfl rfl (fun b2 => ?_)
  refine JL_box rfl rfl (fun b3 => ?_)
  refine JL_alloc z36 (fun b4 => ?_)
  refine JL_done_up 9 [box _ _ [_, _, _], box _ _ [_, _, _], box _ _ [_, _, _]] [_, _, _, _] rfl rfl (by simp only [nrmF]; rfl) rfl rfl ?_
  refine JC_seq ?_
  refine JC_drawT mixed 3 [spV 5 [] _, spV 6 [] _, spC 7 [1] _] ⟨OblS_V (fun vals ex ψ => (by
      refine JL_normQ ⟨9, [(5, _), (6, _), (7, _)], _⟩ (_ :: _ :: _ :: _ :: ψ) rfl rfl ?_
      refine JL_loadA (vs := [_, _, _]) 0 ty36 rfl rfl ⟨rfl, rfl, rfl, trivial⟩ ?_
      exact JL_nil (JE_stepV rfl ss0))), OblS_V (fun vals ex ψ => (by
      refine JL_normQ ⟨9, [(5, _), (6, _), (7, _)], _⟩ (_ :: _ :: _ :: _ :: ψ) rfl rfl ?_
      refine JL_loadA (vs := [_, _, _]) 1 ty36 rfl rfl ⟨rfl, rfl, rfl, trivial⟩ ?_
      exact JL_nil (JE_stepV rfl ss0))), OblS_C (fun vals ex ψ => (by
      refine JL_normQ ⟨9, [(5, _), (6, _), (7, _)], _⟩ (_ :: _ :: _ :: _ :: ψ) rfl rfl ?_
      refine JL_callF' (Asks.cons (holds_of_mem (by repeat (first | with_reducible exact mm0 | refine mmS ?_))) (Asks.cons (holds_of_mem (by repeat (first | with_reducible exact mm0 | refine mmS ?_))) Asks.nil)) (fneg_con (g2.mono (by omega))) rfl ca15 ⟨rfl, rfl⟩ ?_
      exact fun v φo hP => JL_nil (JE_stepC φo rfl hP (fun p hp => mapB_l hp) (fun p hp => mapB_r (ss0 p hp))))), trivial⟩ (by kernel_rfl) (fun vals bs => ?_)
  refine JL_normL [_, _] ⟨9, [(5, _), (6, _), (7, _)], _⟩ [box _ _ [_, _, _], box _ _ [_, _, _], box _ _ [_, _, _]] [_, _, _, _, _] rfl rfl rfl rfl ?_
  generalize vals (0 + 1 + 1) = x7
  refine JL_usePost mm0 (fun φo hP => ?_)
  obtain ⟨ad7, cp7, be7, ce7, rfl, rfl⟩ := hP
  refine JL_norm _ [box _ _ [_, _, _], box _ _ [_, _, _], box _ _ [_, _, _]] [_, _, _, _, _, _, _] rfl rfl rfl ?_
  refine JL_callF' (Asks.cons (holds_of_mem (by repeat (first | with_reducible exact mm0 | refine mmS ?_))) (Asks.cons (holds_of_mem (by repeat (first | with_reducible exact mm0 | refine mmS ?_))) (Asks.cons (holds_of_mem (by repeat (first | with_reducible exact mm0 | refine mmS ?_))) (Asks.cons (holds_of_mem (by repeat (first | with_reducible exact mm0 | refine mmS ?_))) Asks.nil)))) (faddq_con (g1.mono (by omega)) (FIn.some hq2)) rfl ca20 ⟨rfl, rfl, rfl⟩ ?_
  rintro _ _ ⟨ad8, cp8, be8, ce8, rfl, rfl⟩
  refine JL_store (vs := [_, _, _]) 2 ty36 rfl rfl rfl (AllOne.cons rfl (AllOne.cons rfl (AllOne.cons rfl AllOne.nil))) rfl (Nat.le_of_ble_eq_true rfl) ?_
  refine JL_done_up 9 [box _ _ [_, _, _], box _ _ [_, _, _], box _ _ [_, _, _]] [_, _, _, _, _, _, _, _, _] rfl rfl (by simp only [nrmF]; rfl) rfl rfl ?_
  refine JC_ret ?_
  have he : q1 + -q2 = q1 - q2 := (Rat.sub_eq_add_neg _ _).symm
  rw [he]
  refine JE_ret (vs := [_]) [vCells ad8 (u32s (fnum (some (q1 - q2)))), vCells be8 (u32s (fden (some (q1 - q2))))] Tryd.results43 ⟨RV.cell (vs := [_, _, _]) 2 ty36 rfl rfl ⟨rfl, rfl, rfl, trivial⟩, rfl⟩ ?_ ?_
  · exact ⟨ad8, cp8, be8, ce8, rfl, rfl⟩
  · exact (all_cons (by repeat (first | with_reducible exact mm0 | refine mmS ?_)) (all_cons (by repeat (first | with_reducible exact mm0 | refine mmS ?_)) all_nil))

end Go.Fw.K
