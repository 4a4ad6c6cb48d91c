/- Walks through functions of the given program: each meets its contract. (Printed by a program of this repo.) -/
import Derived.Test.YtfkfmpfohaomhaaGreatKA
import Derived.Test.YtfkfmpfohaomhaaGreatKB
import Derived.Test.YtfkfmpfohaomhaaGreatCc
import Derived.Test.YtfkfmpfohaomhaaGreatProg
namespace Go.Fw.K11
open Go Go.RowKit Go.Proofs Go.Nat9 Go.Fw
attribute [local irreducible] JC JL JE
theorem mixed : Tryz.prog.follows .mixedOrders = true := by kernel_rfl
theorem sl36 : slOf Tryz.prog 36 = some (3, 1, 8, [.int .i64 0]) := by kernel_rfl
theorem ty3 : tyOf Tryz.prog 3 = some (false, 1) := by kernel_rfl
end Go.Fw.K11
namespace Go.Fw.K
open Go Go.RowKit Go.Proofs Go.Nat9 Go.Fw Go.Fw.K11
attribute [local irreducible] JC JL JE

set_option maxHeartbeats 1000000 in
theorem cpi_con {ad : Option Addr} {c : Nat} {l : List Int} (hln : l.length ≤ 1000000) :
    ConO Tryz.prog 36 [.slice ad l.length c] [osl ad l.length c 3 1 (i64s l)] []
      (fun v rout φo => v = .slice ad (cpG (0 : Int) l l.length).length c ∧ φo = [] ∧ rout = [osl ad (cpG (0 : Int) l l.length).length c 3 1 (i64s (cpG (0 : Int) l l.length))]) := by
  refine ConO_of Tryz.func36 rfl 61 _ rfl rfl ?_; intro w0 p0 p1; refine JC_norm ⟨61, [], [_, _, _, _, _, _, _, _, _, _, _, _, _, _, _, _, _, _, _, _, _, _, _, _, _, _, _, _, _, _, _, _, _, _, _, _, _, _, _, _, _, _, _, _, _, _, _, _, _, _, _, _, _, _, _, _, _, _, _, _, _]⟩ [osl _ _ _ _ _ _] [_, _] rfl rfl rfl ?_; refine JC_sr ?_; refine JL_assign rfl ?_; refine JL_du 61 [osl _ _ _ _ _ _] [_, _] ?_; refine JC_seq ?_; refine JC_seq ?_; refine JC_ownCap 0 rfl (fun hcap => ?_); refine JC_region ?_; refine JL_m ?_; refine JL_len sl36 rfl ?_; refine JL_lss rfl rfl ?_; refine JL_split (fun h8 => ?_) (fun h8 => ?_)
  · refine JL_du 61 [osl _ _ _ _ _ _] [_, _] ?_; refine JC_true rfl ?_; refine JC_sr ?_; refine JL_m ?_; refine JL_assign rfl ?_; refine JL_du 61 [osl _ _ _ _ _ _] [_, _] ?_; refine JC_ret ?_; refine JE_then_ret ?_; refine JE_retO (vs := [_]) [] Tryz.results36 ⟨rfl, rfl⟩ ?_ ?_ am am
    · rw [show cpG (0 : Int) l l.length = l from cpG_all (fun j h0 hj => by omega)]; exact ⟨rfl, rfl, rfl⟩
    · exact all_nil
  · refine JL_du 61 [osl _ _ _ _ _ _] [_, _] ?_; refine JC_false rfl ?_; refine JC_skip ?_; refine JE_then ?_; refine JC_seq ?_; refine JC_sr ?_; refine JL_assign rfl ?_; refine JL_du 61 [osl _ _ _ _ _ _] [_, _] ?_; refine JC_block ?_
    refine JC_loopS ((Nat)) (fun (k : Nat) => 1 ≤ k ∧ k ≤ l.length ∧ ∀ j, 0 < j → j < k → l.getD j (0 : Int) ≠ l.getD (j - 1) (0 : Int)) (fun (k : Nat) => l.length - k) (fun u (k : Nat) => [none, none, some (u 2), some (.int .i64 (k : Nat)), some (u 4), some (u 5), none, none, none, none, some (u 10), some (u 11), some (u 12), some (u 13), some (u 14), some (u 15), some (u 16), some (u 17), some (u 18), some (u 19), some (u 20), some (u 21), some (u 22), some (u 23), some (u 24), some (u 25), some (u 26), some (u 27), some (u 28), some (u 29), some (u 30), some (u 31), some (u 32), some (u 33), some (u 34), some (u 35), some (u 36), some (u 37), some (u 38), some (u 39), some (u 40), some (u 41), some (u 42), some (u 43), some (u 44), some (u 45), some (u 46), some (u 47), some (u 48), some (u 49), some (u 50), some (u 51), some (u 52), some (u 53), some (u 54), some (u 55), some (u 56), some (u 57), some (u 58), some (u 59), none]) (fun (k : Nat) => [none]) (fun (k : Nat) => []) (1) (by kernel_rfl) ?_ (by kernel_rfl) ?_ ?_
    · exact ⟨Nat.le_refl _, by omega, fun j h0 hj => by omega⟩
    · exact subset_nil
    intro u k hC; obtain ⟨hk1, hk, hne⟩ := hC; refine JC_nm 61 [osl _ _ _ _ _ _] [_, _] ?_; refine JC_seq ?_; refine JC_sr ?_; refine JL_m ?_; refine JL_m ?_; refine JL_len sl36 rfl ?_; refine JL_lss rfl rfl ?_; refine JL_split (fun h13 => ?_) (fun h13 => ?_)
    · refine JL_du 61 [osl _ _ _ _ _ _] [_, _] ?_; refine JC_true rfl ?_; refine JC_skip ?_; refine JE_then ?_; refine JC_seq ?_; refine JC_block ?_; refine JC_seq ?_; refine JC_drawT mixed 9 [spV 16 [] _, spV 17 [] _, spV 18 [0, 1] _, spV 19 [2] _, spV 20 [] _, spV 21 [] _, spV 22 [5] _, spV 23 [4, 6] _, spV 24 [7] _] ⟨oM, oM, OblS_V (fun vals ex ψ => (by refine JL_normQ _ (_ :: _ :: ψ) rfl rfl ?_; refine JL_idx k sl36 rfl rfl rfl (by omega) (Reads.own 0 rfl) (by rw [i64s_length]; omega) ?_; exact vz rfl)), OblS_V (fun vals ex ψ => (by refine JL_normQ _ (_ :: _ :: ψ) rfl rfl ?_; refine JL_loadE ty3 rfl (Reads.own 0 rfl) (i64s_get (L := l) (k := k) (by omega)) ?_; exact vz rfl)), oM, oM, OblS_V (fun vals ex ψ => (by refine JL_sub_to rfl rfl (IntWalk.i64_in _ (by omega)) ?_; rw [show ((k : Int) - 1 : Int) = ((k - 1 : Nat) : Int) from by omega]; exact vz rfl)), OblS_V (fun vals ex ψ => (by refine JL_normQ _ (_ :: _ :: ψ) rfl rfl ?_; refine JL_idx (k - 1) sl36 rfl rfl rfl (by omega) (Reads.own 0 rfl) (by rw [i64s_length]; omega) ?_; exact vz rfl)), OblS_V (fun vals ex ψ => (by refine JL_normQ _ (_ :: _ :: ψ) rfl rfl ?_; refine JL_loadE ty3 rfl (Reads.own 0 rfl) (i64s_get (L := l) (k := (k - 1)) (by omega)) ?_; exact vz rfl)), trivial⟩ (by kernel_rfl) (fun vals bs => ?_)
      refine JL_normL [_] ⟨61, [(16, _), (17, _), (18, _), (19, _), (20, _), (21, _), (22, _), (23, _), (24, _)], _⟩ [osl _ _ _ _ _ _] [_, _] rfl rfl rfl rfl ?_; refine JL_eql rfl rfl ?_; refine JL_split (fun h25 => ?_) (fun h25 => ?_)
      · refine JL_du 61 [osl _ _ _ _ _ _] [_, _] ?_; refine JC_true rfl ?_; refine JC_sr ?_; refine JL_m ?_; refine JL_m ?_; refine JL_slice k l.length c sl36 rfl (.some rfl rfl) .none .none (.inl rfl) (by omega) hcap.1 (by omega) ?_; refine JL_assign rfl ?_; refine JL_du 61 [osl _ _ _ _ _ _] [_, _] ?_; refine JC_seq ?_; refine JC_sr ?_; refine JL_assign rfl ?_; refine JL_du 61 [osl _ _ _ _ _ _] [_, _] ?_; refine JC_block ?_
        refine JC_loopS ((Nat) × (Nat) × (List Int)) (fun (j, kk, row) => 1 ≤ j ∧ CpSt (0 : Int) l row k j kk) (fun (j, kk, row) => l.length - j) (fun u (j, kk, row) => [none, none, none, some (.int .i64 (kk : Nat)), none, some (.int .i64 (j : Nat)), none, none, none, none, none, none, none, none, none, none, none, none, none, none, none, none, none, none, none, none, none, none, none, some (u 29), some (u 30), some (u 31), some (u 32), some (u 33), some (u 34), some (u 35), some (u 36), some (u 37), some (u 38), some (u 39), some (u 40), some (u 41), some (u 42), some (u 43), some (u 44), some (u 45), some (u 46), some (u 47), some (u 48), some (u 49), some (u 50), some (u 51), some (u 52), some (u 53), none, none, none, none, none, none, none]) (fun (j, kk, row) => [some (osl ad l.length c 3 1 (i64s row))]) (fun (j, kk, row) => []) (1, k, l) (by kernel_rfl) ?_ (by kernel_rfl) ?_ ?_
        · exact ⟨Nat.le_refl _, CpSt.start (by omega) (by omega) hne h25⟩
        · exact subset_nil
        intro u i hC; obtain ⟨j, kk, row⟩ := i; obtain ⟨hj, hS⟩ := hC; refine JC_nm 61 [osl _ _ _ _ _ _] [_, _] ?_
        have hlt := hS.lt
        have hbnd := hS.bnd
        have hlen := hS.len
        refine JC_seq ?_; refine JC_sr ?_; refine JL_m ?_; refine JL_m ?_; refine JL_len sl36 rfl ?_; refine JL_lss rfl rfl ?_; refine JL_split (fun h32 => ?_) (fun h32 => ?_)
        · refine JL_du 61 [osl _ _ _ _ _ _] [_, _] ?_; refine JC_true rfl ?_; refine JC_skip ?_; refine JE_then ?_; refine JC_seq ?_; refine JC_block ?_; refine JC_seq ?_; refine JC_drawT mixed 9 [spV 35 [] _, spV 36 [] _, spV 37 [0, 1] _, spV 38 [2] _, spV 39 [] _, spV 40 [] _, spV 41 [5] _, spV 42 [4, 6] _, spV 43 [7] _] ⟨oM, oM, OblS_V (fun vals ex ψ => (by refine JL_normQ _ (_ :: _ :: ψ) rfl rfl ?_; refine JL_idx j sl36 rfl rfl rfl (by omega) (by refine Reads.subI (row := row) (n := l.length) (E := 3) 0 ?_ k ?_; all_goals first | exact rfl | omega) (by rw [i64s_length, List.length_drop]; have := hS.len; omega) ?_; exact vz rfl)), OblS_V (fun vals ex ψ => (by refine JL_normQ _ (_ :: _ :: ψ) rfl rfl ?_; refine JL_loadE ty3 rfl (by refine Reads.subI (row := row) (n := l.length) (E := 3) 0 ?_ k ?_; all_goals first | exact rfl | omega) (i64s_get (L := (row.drop k)) (k := j) (by rw [List.length_drop]; omega)) ?_; rw [getD_dropG, hS.post _ (by omega) (by omega)]; exact vz rfl)), oM, oM, OblS_V (fun vals ex ψ => (by refine JL_sub_to rfl rfl (IntWalk.i64_in _ (by omega)) ?_; rw [show ((j : Int) - 1 : Int) = ((j - 1 : Nat) : Int) from by omega]; exact vz rfl)), OblS_V (fun vals ex ψ => (by refine JL_normQ _ (_ :: _ :: ψ) rfl rfl ?_; refine JL_idx (j - 1) sl36 rfl rfl rfl (by omega) (by refine Reads.subI (row := row) (n := l.length) (E := 3) 0 ?_ k ?_; all_goals first | exact rfl | omega) (by rw [i64s_length, List.length_drop]; have := hS.len; omega) ?_; exact vz rfl)), OblS_V (fun vals ex ψ => (by
              refine JL_normQ _ (_ :: _ :: ψ) rfl rfl ?_; refine JL_loadE ty3 rfl (by refine Reads.subI (row := row) (n := l.length) (E := 3) 0 ?_ k ?_; all_goals first | exact rfl | omega) (i64s_get (L := (row.drop k)) (k := (j - 1)) (by rw [List.length_drop]; omega)) ?_; rw [getD_dropG, hS.post _ (by omega) (by omega)]; rw [show k + (j - 1) = k + j - 1 from by omega]; exact vz rfl)), trivial⟩ (by kernel_rfl) (fun vals bs => ?_)
          refine JL_normL [_] ⟨61, [(35, _), (36, _), (37, _), (38, _), (39, _), (40, _), (41, _), (42, _), (43, _)], _⟩ [osl _ _ _ _ _ _] [_, _] rfl rfl rfl rfl ?_; refine JL_neq rfl rfl ?_; refine JL_split (fun h44 => ?_) (fun h44 => ?_)
          · refine JL_du 61 [osl _ _ _ _ _ _] [_, _] ?_; refine JC_true rfl ?_; refine JC_sr ?_; refine JL_m ?_; refine JL_m ?_; refine JL_m ?_; refine JL_m ?_; refine JL_idx j sl36 rfl rfl rfl (by omega) (by refine Reads.subI (row := row) (n := l.length) (E := 3) 0 ?_ k ?_; all_goals first | exact rfl | omega) (by rw [i64s_length, List.length_drop]; have := hS.len; omega) ?_; refine JL_loadE ty3 rfl (by refine Reads.subI (row := row) (n := l.length) (E := 3) 0 ?_ k ?_; all_goals first | exact rfl | omega) (i64s_get (L := (row.drop k)) (k := j) (by rw [List.length_drop]; omega)) ?_; rw [getD_dropG, hS.post _ (by omega) (by omega)]; refine JL_idx kk sl36 rfl rfl rfl (by omega) (Reads.own 0 rfl) (by rw [i64s_length]; omega) ?_; refine JL_storeI 0 ty3 rfl rfl rfl (by omega) ?_; refine JL_du 61 [osl _ _ _ _ _ _] [_, _] ?_; refine JC_region ?_; refine JL_m ?_; refine JL_add_to rfl rfl (IntWalk.i64_in _ (by omega)) ?_; refine JL_assign rfl ?_; refine JL_nu 61 [osl _ _ _ _ _ _] [_, _] ?_; refine JE_block_normal ?_; refine JE_then ?_; refine JC_region ?_; refine JL_m ?_; refine JL_add_to rfl rfl (IntWalk.i64_in _ (by omega)) ?_
            refine JL_assign rfl ?_; refine JL_nu 61 [osl _ _ _ _ _ _] [_, _] ?_; refine JE_nextS (j + 1, kk + 1, row.set kk (l.getD (k + j) (0 : Int))) (by kernel_rfl) ?_ ?_ (by kernel_rfl) ?_
            · exact ⟨by omega, hS.put (by omega) h44⟩
            · first | omega | (dsimp only; omega)
            · exact subset_app subset_nil ss0
          · refine JL_du 61 [osl _ _ _ _ _ _] [_, _] ?_; refine JC_false rfl ?_; refine JC_skip ?_; refine JE_block_normal ?_; refine JE_then ?_; refine JC_region ?_; refine JL_m ?_; refine JL_add_to rfl rfl (IntWalk.i64_in _ (by omega)) ?_; refine JL_assign rfl ?_; refine JL_nu 61 [osl _ _ _ _ _ _] [_, _] ?_; refine JE_nextS (j + 1, kk, row) (by kernel_rfl) ?_ ?_ (by kernel_rfl) ?_
            · exact ⟨by omega, hS.hold (by omega) (by omega) (Classical.byContradiction h44)⟩
            · first | omega | (dsimp only; omega)
            · exact subset_app subset_nil ss0
        · refine JL_du 61 [osl _ _ _ _ _ _] [_, _] ?_; refine JC_false rfl ?_; refine JC_exit ?_; refine JE_then_exit ?_; refine JE_nextS_exit ?_; refine JE_block_exit ?_; refine JE_then ?_; refine JC_sr ?_; refine JL_m ?_; refine JL_m ?_; refine JL_slice kk l.length c sl36 rfl (.some rfl rfl) .none .none (.inl rfl) (by omega) hcap.1 (by omega) ?_; refine JL_clear (n := l.length) (cap := c) (k := kk) 0 sl36 rfl (AllOne.cons rfl AllOne.nil) rfl rfl (by omega) ?_
          have hjE : k + j = l.length := by omega
          have hpre := hS.pre
          have hkk := hS.cnt
          rw [hjE] at hpre hkk; rw [show (i64s row).take (kk * 1) = i64s (cpG (0 : Int) l l.length) from by rw [← hpre]; rw [Nat.mul_one]; unfold i64s; rw [List.map_take]]; refine JL_du 61 [osl _ _ _ _ _ _] [_, _] ?_; refine JC_sr ?_; refine JL_m ?_; refine JL_m ?_; refine JL_sliceTo kk sl36 rfl rfl (by omega) (by omega) ?_; refine JL_assign rfl ?_; refine JL_du 61 [osl _ _ _ _ _ _] [_, _] ?_; refine JC_ret ?_; refine JE_block_ret ?_; refine JE_then_ret ?_; refine JE_nextS_ret ?_; refine JE_block_ret ?_; refine JE_then_ret ?_; subst hkk; refine JE_retO (vs := [_]) [] Tryz.results36 ⟨rfl, rfl⟩ ?_ ?_ am am
          · exact ⟨rfl, rfl, rfl⟩
          · exact all_nil
      · refine JL_du 61 [osl _ _ _ _ _ _] [_, _] ?_; refine JC_false rfl ?_; refine JC_skip ?_; refine JE_block_normal ?_; refine JE_then ?_; refine JC_region ?_; refine JL_m ?_; refine JL_add_to rfl rfl (IntWalk.i64_in _ (by omega)) ?_; refine JL_assign rfl ?_; refine JL_nu 61 [osl _ _ _ _ _ _] [_, _] ?_; refine JE_nextS (k + 1) (by kernel_rfl) ?_ ?_ (by kernel_rfl) ?_
        · exact ⟨by omega, by omega, fun j h0 hj => by
          by_cases e : j = k
          · subst e; exact h25
          · exact hne j h0 (by omega)⟩
        · first | omega | (dsimp only; omega)
        · exact subset_app subset_nil ss0
    · refine JL_du 61 [osl _ _ _ _ _ _] [_, _] ?_; refine JC_false rfl ?_; refine JC_exit ?_; refine JE_then_exit ?_; refine JE_nextS_exit ?_; refine JE_block_exit ?_; refine JE_then ?_; refine JC_sr ?_; refine JL_m ?_; refine JL_assign rfl ?_; refine JL_du 61 [osl _ _ _ _ _ _] [_, _] ?_; refine JC_ret ?_
      have hkE : k = l.length := by omega
      subst hkE; refine JE_retO (vs := [_]) [] Tryz.results36 ⟨rfl, rfl⟩ ?_ ?_ am am
      · rw [show cpG (0 : Int) l l.length = l from cpG_all hne]; exact ⟨rfl, rfl, rfl⟩
      · exact all_nil

end Go.Fw.K
