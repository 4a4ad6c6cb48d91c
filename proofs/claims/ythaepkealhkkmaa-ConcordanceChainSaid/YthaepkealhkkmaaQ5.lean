/- Walks through functions of the given program: each meets its contract. (Printed by a program of this repo.) -/
import Derived.Test.YthaepkealhkkmaaQ4
import Derived.Test.YthaepkealhkkmaaProg
namespace Go.Fw.Q5
open Go Go.RowKit Go.Proofs Go.Nat9 Go.Fw
attribute [local irreducible] JC JL JE
theorem ca52 : callable Try.prog 52 = true := by kernel_rfl
theorem ca53 : callable Try.prog 53 = true := by kernel_rfl
theorem sl22 : slOf Try.prog 22 = some (51, 2, 16, [.int .i64 0, .int .i64 0]) := by kernel_rfl
end Go.Fw.Q5
namespace Go.Fw.K
open Go Go.RowKit Go.Proofs Go.Nat9 Go.Fw Go.Fw.Q5
attribute [local irreducible] JC JL JE

theorem sorted_con {ad : Option Addr} {c : Nat} {l : List Pr} (hln : l.length ≤ 1000000) :
    ConO Try.prog 36 [.slice ad l.length c] [osl ad l.length c 51 2 (pcells l)] []
      (fun v rout φo => ∃ (ad2 : Option Addr) (c2 : Nat), v = .tuple #[.slice ad2 (sortR l).length c2, .int .i64 (sortE l)] ∧ ((sortR l).length ≤ c2 ∧ c2 ≤ 9223372036854775807) ∧ rout = [] ∧ φo = [vCells ad2 (pcells (sortR l))]) := by
  refine ConO_of Try.func36 rfl 12 _ rfl rfl ?_
  intro w0 p0 p1
  refine JC_norm ⟨12, [], [_, _, _, _, _, _, _, _, _, _, _, _]⟩ [osl _ _ _ _ _ _] [_, _] rfl rfl rfl ?_
  refine JC_seq ?_
  refine JC_region ?_
  refine JL_assign rfl ?_
  refine JL_assign rfl ?_
  refine JL_done_up 12 [osl _ _ _ _ _ _] [_, _] rfl rfl (by simp only [nrmF]; rfl) rfl rfl ?_
  refine JC_seq ?_
  refine JC_region ?_
  refine JL_move rfl ?_
  refine JL_callO AsksO.nil (sort_con (l := l) hln) rfl ca52 ⟨rfl, rfl, rfl⟩ ?_
  rintro _ _ _ ⟨rfl, rfl, d5, hp5, hl5, hs5, rfl⟩
  rw [← hl5]
  refine JL_done_up 12 [osl _ _ _ _ _ _] [_, _] rfl rfl (by simp only [nrmF]; rfl) rfl rfl ?_
  refine JC_seq ?_
  refine JC_region ?_
  refine JL_move rfl ?_
  refine JL_callO AsksO.nil (cpt_con (l := d5) (by omega)) rfl ca53 ⟨rfl, rfl⟩ ?_
  rintro _ _ _ ⟨rfl, rfl, rfl⟩
  rw [show cpG dP d5 d5.length = srt l from cpD_srt hp5 hs5]
  refine JL_assign rfl ?_
  refine JL_done_up 12 [osl _ _ _ _ _ _] [_, _] rfl rfl (by simp only [nrmF]; rfl) rfl rfl ?_
  refine JC_seq ?_
  refine JC_seq ?_
  refine JC_ownCap 0 rfl (fun hcap => ?_)
  refine JC_region ?_
  refine JL_move rfl ?_
  refine JL_len sl22 rfl ?_
  refine JL_gtr rfl rfl ?_
  refine JL_split (fun h10 => ?_) (fun h10 => ?_)
  · refine JL_done_up 12 [osl _ _ _ _ _ _] [_, _] rfl rfl (by simp only [nrmF]; rfl) rfl rfl ?_
    refine JC_true rfl ?_
    refine JC_seq ?_
    refine JC_region ?_
    refine JL_assign rfl ?_
    refine JL_assign rfl ?_
    refine JL_done_up 12 [osl _ _ _ _ _ _] [_, _] rfl rfl (by simp only [nrmF]; rfl) rfl rfl ?_
    refine JC_ret ?_
    refine JE_then_ret ?_
    refine JE_dropAt 0 ?_
    refine JE_norm _ [] [_, _] rfl rfl rfl ?_
    refine JE_addView (f := true) (p := vCells none (pcells [])) (fun _ _ => nilP) ?_
    refine JE_retO (vs := [_, _]) [vCells none (pcells [])] Try.results36 ⟨rfl, rfl, rfl⟩ ?_ ?_ (by repeat (first | with_reducible exact mm0 | refine mmS ?_)) (by repeat (first | with_reducible exact mm0 | refine mmS ?_))
    · rw [(sortR_no (l := l) (by omega)).1, (sortR_no (l := l) (by omega)).2]; exact ⟨none, 0, rfl, caps0, rfl, rfl⟩
    · exact (all_cons (by repeat (first | with_reducible exact mm0 | refine mmS ?_)) all_nil)
  · refine JL_done_up 12 [osl _ _ _ _ _ _] [_, _] rfl rfl (by simp only [nrmF]; rfl) rfl rfl ?_
    refine JC_false rfl ?_
    refine JC_skip ?_
    refine JE_then ?_
    refine JC_seq ?_
    refine JC_region ?_
    refine JL_move rfl ?_
    refine JL_assign rfl ?_
    refine JL_assign rfl ?_
    refine JL_done_up 12 [osl _ _ _ _ _ _] [_, _] rfl rfl (by simp only [nrmF]; rfl) rfl rfl ?_
    refine JC_ret ?_
    refine JE_give 0 rfl ?_
    refine JE_norm _ [] [_, _, _] rfl rfl rfl ?_
    refine JE_retO (vs := [_, _]) [vCells ad (pcells (srt l))] Try.results36 ⟨rfl, rfl, rfl⟩ ?_ ?_ (by repeat (first | with_reducible exact mm0 | refine mmS ?_)) (by repeat (first | with_reducible exact mm0 | refine mmS ?_))
    · rw [(sortR_ok (l := l) (by omega)).1, (sortR_ok (l := l) (by omega)).2]; exact ⟨ad, c, rfl, hcap, rfl, rfl⟩
    · exact (all_cons (by repeat (first | with_reducible exact mm0 | refine mmS ?_)) all_nil)

end Go.Fw.K
