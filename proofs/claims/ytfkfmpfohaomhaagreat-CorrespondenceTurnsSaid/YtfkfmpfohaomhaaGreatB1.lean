/- Walks through functions of the given program: each meets its contract. (Printed by a program of this repo.) -/
import Derived.Test.YtfkfmpfohaomhaaGreatFwC
import Derived.Test.YtfkfmpfohaomhaaGreatProg
namespace Go.Fw.B1
open Go Go.RowKit Go.Proofs Go.Nat9 Go.Fw
attribute [local irreducible] JC JL JE
theorem ca26 : callable Tryz.prog 26 = true := by kernel_rfl
theorem fo27_0 : fOf Tryz.prog 27 0 = some 0 := by kernel_rfl
theorem fo29_0 : fOf Tryz.prog 29 0 = some 0 := by kernel_rfl
theorem fo29_1 : fOf Tryz.prog 29 1 = some 1 := by kernel_rfl
theorem fo29_2 : fOf Tryz.prog 29 2 = some 2 := by kernel_rfl
theorem mixed : Tryz.prog.follows .mixedOrders = true := by kernel_rfl
theorem sl25 : slOf Tryz.prog 25 = some (93, 1, 4, [.int .u32 0]) := by kernel_rfl
theorem ty25 : tyOf Tryz.prog 25 = some (false, 1) := by kernel_rfl
theorem ty27 : tyOf Tryz.prog 27 = some (true, 1) := by kernel_rfl
theorem ty4 : tyOf Tryz.prog 4 = some (false, 1) := by kernel_rfl
theorem ty93 : tyOf Tryz.prog 93 = some (false, 1) := by kernel_rfl
theorem ub4 : Tryz.prog.underlying 4 = some .bool := by kernel_rfl
end Go.Fw.B1
namespace Go.Fw.K
open Go Go.RowKit Go.Proofs Go.Nat9 Go.Fw Go.Fw.B1
attribute [local irreducible] JC JL JE

theorem bnat_con {ad1 : Option Addr} {c1 : Nat} {ad2 : Option Addr} {c2 : Nat} {L : List Nat} (hu : U32 L) (hl : L.length ≤ 1000000000) :
    ConF Tryz.prog 26 [.agg #[.slice ad1 L.length c1], .agg #[.slice ad2 L.length c2]] [vCells ad1 (u32s L), vCells ad2 (u32s L)]
      (fun v φo => v = .bool true ∧ φo = []) := by
  refine ConF_of Tryz.func26 rfl 31 _ rfl rfl ?_; intro w0; refine JC_norm ⟨31, [], [_, _, _, _, _, _, _, _, _, _, _, _, _, _, _, _, _, _, _, _, _, _, _, _, _, _, _, _, _, _, _]⟩ [] [_, _] rfl rfl rfl ?_; refine JC_sr ?_; refine JL_box rfl rfl (fun b2 => ?_); refine JL_box rfl rfl (fun b3 => ?_); refine JL_assign rfl ?_; refine JL_du 31 [box _ _ [_], box _ _ [_]] [_, _] ?_; refine JC_seq ?_; refine JC_sr ?_; refine JL_fieldAddr fo27_0 rfl ?_; refine JL_load 0 ty25 rfl rfl rfl ?_; refine JL_len sl25 rfl ?_; refine JL_fieldAddr fo27_0 rfl ?_; refine JL_load 1 ty25 rfl rfl rfl ?_; refine JL_len sl25 rfl ?_; refine JL_neq rfl rfl ?_; refine JL_split (fun h12 => ?_) (fun h12 => ?_)
  · exact absurd rfl h12
  · refine JL_du 31 [box _ _ [_], box _ _ [_]] [_, _] ?_; refine JC_false rfl ?_; refine JC_skip ?_; refine JE_then ?_; refine JC_seq ?_; refine JC_sr ?_; refine JL_assign rfl ?_; refine JL_du 31 [box _ _ [_], box _ _ [_]] [_, _] ?_; refine JC_block ?_; refine JC_loopS ((Nat)) (fun (k : Nat) => k ≤ L.length) (fun (k : Nat) => L.length - k) (fun u (k : Nat) => [none, none, none, none, some (u 4), some (.int .i64 (k : Nat)), none, none, none, none, none, none, none, some (u 13), some (u 14), some (u 15), some (u 16), some (u 17), some (u 18), some (u 19), some (u 20), some (u 21), some (u 22), some (u 23), some (u 24), some (u 25), some (u 26), some (u 27), some (u 28), some (u 29), some (u 30)]) (fun (k : Nat) => [none, none]) (fun (k : Nat) => []) (0) (by kernel_rfl) ?_ (by kernel_rfl) ?_ ?_
    · exact Nat.zero_le _
    · exact subset_nil
    intro u k hk; refine JC_nm 31 [box _ _ [_], box _ _ [_]] [_, _] ?_
    have hL := hu.getD k
    refine JC_seq ?_; refine JC_sr ?_; refine JL_m ?_; refine JL_fieldAddr fo27_0 rfl ?_; refine JL_load 0 ty25 rfl rfl rfl ?_; refine JL_len sl25 rfl ?_; refine JL_lss rfl rfl ?_; refine JL_split (fun h17 => ?_) (fun h17 => ?_)
    · refine JL_du 31 [box _ _ [_], box _ _ [_]] [_, _] ?_; refine JC_true rfl ?_; refine JC_skip ?_; refine JE_then ?_; refine JC_seq ?_; refine JC_block ?_; refine JC_seq ?_; refine JC_drawT mixed 10 [spV 20 [] _, spV 21 [0] _, spV 22 [] _, spV 23 [1, 2] _, spV 24 [3] _, spV 25 [] _, spV 26 [5] _, spV 27 [] _, spV 28 [6, 7] _, spV 29 [8] _] ⟨OblS_V (fun vals ex ψ => (by refine JL_normQ _ (_ :: _ :: ψ) rfl rfl ?_; refine JL_fieldAddr fo27_0 rfl ?_; exact vz rfl)), OblS_V (fun vals ex ψ => (by refine JL_normQ _ (_ :: _ :: ψ) rfl rfl ?_; refine JL_load 0 ty25 rfl rfl rfl ?_; exact vz rfl)), oM, OblS_V (fun vals ex ψ => (by refine JL_normQ _ (_ :: _ :: ψ) rfl rfl ?_; refine JL_idx k sl25 rfl rfl rfl (by omega) (Reads.view List.mem_cons_self) (by first | (rw [u32s_length]; omega) | (rw [i64s_length]; omega)) ?_; exact vz rfl)), OblS_V (fun vals ex ψ => (by refine JL_normQ _ (_ :: _ :: ψ) rfl rfl ?_; refine JL_loadE ty93 rfl (Reads.view List.mem_cons_self) (u32s_get (by omega)) ?_; exact vz rfl)), OblS_V (fun vals ex ψ => (by refine JL_normQ _ (_ :: _ :: ψ) rfl rfl ?_; refine JL_fieldAddr fo27_0 rfl ?_; exact vz rfl)), OblS_V (fun vals ex ψ => (by refine JL_normQ _ (_ :: _ :: ψ) rfl rfl ?_; refine JL_load 1 ty25 rfl rfl rfl ?_; exact vz rfl)), oM, OblS_V (fun vals ex ψ => (by refine JL_normQ _ (_ :: _ :: ψ) rfl rfl ?_; refine JL_idx k sl25 rfl rfl rfl (by omega) (Reads.view (List.mem_cons_of_mem _ List.mem_cons_self)) (by first | (rw [u32s_length]; omega) | (rw [i64s_length]; omega)) ?_; exact vz rfl)), OblS_V (fun vals ex ψ => (by refine JL_normQ _ (_ :: _ :: ψ) rfl rfl ?_; refine JL_loadE ty93 rfl (Reads.view (List.mem_cons_of_mem _ List.mem_cons_self)) (u32s_get (by omega)) ?_; exact vz rfl)), trivial⟩ (by kernel_rfl) (fun vals bs => ?_)
      refine JL_normL [_] ⟨31, [(20, _), (21, _), (22, _), (23, _), (24, _), (25, _), (26, _), (27, _), (28, _), (29, _)], _⟩ [box _ _ [_], box _ _ [_]] [_, _] rfl rfl rfl rfl ?_; refine JL_neq rfl rfl ?_; refine JL_split (fun h30 => ?_) (fun h30 => ?_)
      · exact absurd rfl h30
      · refine JL_du 31 [box _ _ [_], box _ _ [_]] [_, _] ?_; refine JC_false rfl ?_; refine JC_skip ?_; refine JE_block_normal ?_; refine JE_then ?_; refine JC_region ?_; refine JL_m ?_; refine JL_add_to rfl rfl (IntWalk.i64_in _ (by omega)) ?_; refine JL_assign rfl ?_; refine JL_nu 31 [box _ _ [_], box _ _ [_]] [_, _] ?_; refine JE_nextS (k + 1) (by kernel_rfl) ?_ ?_ (by kernel_rfl) ?_
        · exact (by omega : k + 1 ≤ L.length)
        · first | omega | (dsimp only; omega)
        · exact subset_app subset_nil ss0
    · refine JL_du 31 [box _ _ [_], box _ _ [_]] [_, _] ?_; refine JC_false rfl ?_; refine JC_exit ?_; refine JE_then_exit ?_; refine JE_nextS_exit ?_; refine JE_block_exit ?_; refine JE_then ?_; refine JC_sr ?_; refine JL_assign rfl ?_; refine JL_du 31 [box _ _ [_], box _ _ [_]] [_, _] ?_; refine JC_ret ?_; refine JE_ret (vs := [_]) [] Tryz.results26 ⟨rfl, rfl⟩ ?_ ?_
      · exact ⟨rfl, rfl⟩
      · exact all_nil

theorem bfrac_con {o : Option Rat} {ad1 : Option Addr} {c1 : Nat} {be1 : Option Addr} {e1 : Nat} {ad2 : Option Addr} {c2 : Nat} {be2 : Option Addr} {e2 : Nat} (ho : qs (fval o) 1000000000) :
    ConF Tryz.prog 10 [.agg #[.bool (fneg o), .slice ad1 (fnum o).length c1, .slice be1 (fden o).length e1], .agg #[.bool (fneg o), .slice ad2 (fnum o).length c2, .slice be2 (fden o).length e2]] [vCells ad1 (u32s (fnum o)), vCells be1 (u32s (fden o)), vCells ad2 (u32s (fnum o)), vCells be2 (u32s (fden o))]
      (fun v φo => v = .bool true ∧ φo = []) := by
  have gO := FIn.of ho
  have gn := gO.num
  have gd := gO.den
  refine ConF_of Tryz.func10 rfl 24 _ rfl rfl ?_; intro w0; refine JC_norm ⟨24, [], [_, _, _, _, _, _, _, _, _, _, _, _, _, _, _, _, _, _, _, _, _, _, _, _]⟩ [] [_, _, _, _] rfl rfl rfl ?_; refine JC_sr ?_; refine JL_box rfl rfl (fun b2 => ?_); refine JL_box rfl rfl (fun b3 => ?_); refine JL_assign rfl ?_; refine JL_du 24 [box _ _ [_, _, _], box _ _ [_, _, _]] [_, _, _, _] ?_; refine JC_sr ?_; refine JL_fieldAddr fo29_0 rfl ?_; refine JL_load 0 ty4 rfl rfl rfl ?_; refine JL_fieldAddr fo29_0 rfl ?_; refine JL_load 1 ty4 rfl rfl rfl ?_; refine JL_eqlB ub4 rfl rfl ?_; refine JL_splitEqB (fun h9 => ?_) (fun h9 => ?_)
  · refine JL_m ?_; refine JL_gy ?_; refine JL_fieldAddr fo29_1 rfl ?_; refine JL_gy ?_; refine JL_loadA (vs := [_]) 0 ty27 rfl rfl ⟨rfl, trivial⟩ ?_; refine JL_gy ?_; refine JL_fieldAddr fo29_1 rfl ?_; refine JL_gy ?_; refine JL_loadA (vs := [_]) 1 ty27 rfl rfl ⟨rfl, trivial⟩ ?_; refine JL_gy ?_; refine JL_callF' (Asks.cons (holds_of_mem am) (Asks.cons (holds_of_mem am) Asks.nil)) (bnat_con gn.u32 gn.le) rfl ca26 ⟨rfl, rfl, rfl⟩ ?_; rintro _ _ ⟨rfl, rfl⟩; refine JL_pick_t rfl rfl ?_; refine JL_m ?_; refine JL_gy ?_; refine JL_fieldAddr fo29_2 rfl ?_; refine JL_gy ?_; refine JL_loadA (vs := [_]) 0 ty27 rfl rfl ⟨rfl, trivial⟩ ?_; refine JL_gy ?_; refine JL_fieldAddr fo29_2 rfl ?_; refine JL_gy ?_; refine JL_loadA (vs := [_]) 1 ty27 rfl rfl ⟨rfl, trivial⟩ ?_; refine JL_gy ?_; refine JL_callF' (Asks.cons (holds_of_mem am) (Asks.cons (holds_of_mem am) Asks.nil)) (bnat_con gd.u32 gd.le) rfl ca26 ⟨rfl, rfl, rfl⟩ ?_; rintro _ _ ⟨rfl, rfl⟩; refine JL_pick_t rfl rfl ?_; refine JL_assign rfl ?_; refine JL_du 24 [box _ _ [_, _, _], box _ _ [_, _, _]] [_, _, _, _] ?_; refine JC_ret ?_; refine JE_ret (vs := [_]) [] Tryz.results10 ⟨rfl, rfl⟩ ?_ ?_
    · exact ⟨rfl, rfl⟩
    · exact all_nil
  · exact absurd rfl h9

end Go.Fw.K
