/- Walks through functions of the given program: each meets its contract. (Printed by a program of this repo.) -/
import Derived.Test.YtjkbamfcoiikmaaGreatDoorMG
import Derived.Test.YtjkbamfcoiikmaaGreatDoorPqZd
import Derived.Test.YtjkbamfcoiikmaaGreatDoorFwEd
import Derived.Test.YtjkbamfcoiikmaaGreatDoorProg
namespace Go.Fw.M27
open Go Go.RowKit Go.Proofs Go.Nat9 Go.Fw
attribute [local irreducible] JC JL JE
theorem sl32 : slOf Tryz.prog 32 = some (3, 1, 8, [.int .i64 0]) := by kernel_rfl
theorem ty32 : tyOf Tryz.prog 32 = some (false, 1) := by kernel_rfl
theorem ty4 : tyOf Tryz.prog 4 = some (false, 1) := by kernel_rfl
end Go.Fw.M27
namespace Go.Fw.K
open Go Go.RowKit Go.Proofs Go.Nat9 Go.Fw Go.Fw.M27
attribute [local irreducible] JC JL JE

open Go.Fw.Pq
theorem cliO_con {ad : Option Addr} {c : Nat} {L : List Int} (hln : L.length ≤ 1000000) :
    ConO Tryz.prog 39 [.slice ad L.length c] [] [vCells ad (i64s L)]
      (fun v rout φo => ∃ (ad3 : Option Addr) (c3 : Nat), v = .slice ad3 L.length c3 ∧ (L.length ≤ c3 ∧ c3 ≤ 9223372036854775807) ∧ rout = [osl ad3 L.length c3 3 1 (i64s (L))] ∧ φo = []) := by
  refine ConO_of Tryz.func39 rfl 8 _ rfl rfl ?_; intro w0 p0 p1; refine JC_norm ⟨8, [], [_, _, _, _, _, _, _, _]⟩ [] [_, _, _] rfl rfl rfl ?_; refine JC_sr ?_; refine JL_assign rfl ?_; refine JL_du 8 [] [_, _, _] ?_; refine JC_seq ?_; refine JC_sr ?_; refine JL_m ?_; refine JL_eqlNil sl32 rfl rfl ?_; refine JL_splitV (fun h4 => ?_) (fun h4 => ?_)
  · refine JL_fact (fun w s => nilIL s List.mem_cons_self h4) (fun hL => ?_); refine JL_du 8 [] [_, _, _] ?_; refine JC_true rfl ?_; refine JC_sr ?_; refine JL_assign rfl ?_; refine JL_du 8 [] [_, _, _] ?_; refine JC_ret ?_; refine JE_then_ret ?_; subst hL; refine JE_addNil 3 1 ?_; refine JE_retO (vs := [_]) [] Tryz.results39 ⟨rfl, rfl⟩ ?_ ?_ am am
    · exact ⟨none, 0, rfl, ⟨Nat.le_refl _, by omega⟩, rfl, rfl⟩
    · exact all_nil
  · refine JL_du 8 [] [_, _, _] ?_; refine JC_false rfl ?_; refine JC_skip ?_; refine JE_then ?_; refine JC_sr ?_; refine JL_build0 sl32 (fun g5 => ?_); refine JL_m ?_; refine JL_appendIV (L := []) (M := L) 0 sl32 rfl rfl rfl (by first | exact Reads.view am | (exact Reads.own 0 rfl)) (by first | rfl | assumption | (simp only [lenS]; omega)) (by omega) (by omega) (fun ad7 cap7 hc7 => ?_); refine JL_assign rfl ?_; refine JL_du 8 [osl _ _ _ _ _ _] [_, _, _] ?_; refine JC_ret ?_; refine JE_retO (vs := [_]) [] Tryz.results39 ⟨rfl, rfl⟩ ?_ ?_ am am
    · exact ⟨ad7, cap7, by rw [Nat.zero_add]; rfl, by omega, by rw [Nat.zero_add, List.nil_append], rfl⟩
    · exact all_nil

theorem cl1_con {b1 b2 : Nat} {v1 : Value} {ad : Option Addr} {n c : Nat} :
    ConO Tryz.prog 97 [.slice ad n c, .pointer (some ⟨b1, 0, none⟩), .pointer (some ⟨b2, 0, none⟩)] [box b1 32 [v1], box b2 4 [.bool false]] []
      (fun v rout φo => v = .bool false ∧ rout = [box b1 32 [.slice ad n c], box b2 4 [.bool true]] ∧ φo = []) := by
  refine ConO_of Tryz.func97 rfl 6 _ rfl rfl ?_; intro w0 p0 p1; refine JC_norm ⟨6, [], [_, _, _, _, _, _]⟩ [box _ _ [_], box _ _ [_]] [_, _] rfl rfl rfl ?_; refine JC_sr ?_; refine JL_assign rfl ?_; refine JL_du 6 [box _ _ [_], box _ _ [_]] [_, _] ?_; refine JC_sr ?_; refine JL_m ?_; refine JL_store (vs := [_]) 0 ty32 rfl rfl rfl (AllOne.cons rfl AllOne.nil) rfl (Nat.le_of_ble_eq_true rfl) ?_; refine JL_store (vs := [_]) 1 ty4 rfl rfl rfl (AllOne.cons rfl AllOne.nil) rfl (Nat.le_of_ble_eq_true rfl) ?_; refine JL_du 6 [box _ _ [_], box _ _ [_]] [_, _] ?_; refine JC_sr ?_; refine JL_assign rfl ?_; refine JL_du 6 [box _ _ [_], box _ _ [_]] [_, _] ?_; refine JC_ret ?_; refine JE_retO (vs := [_]) [] Tryz.results97 ⟨rfl, rfl⟩ ?_ ?_ am am
  · exact ⟨rfl, rfl, rfl⟩
  · exact all_nil

end Go.Fw.K
