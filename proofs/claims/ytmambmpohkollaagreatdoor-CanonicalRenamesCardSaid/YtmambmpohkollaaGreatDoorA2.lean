/- Walks through functions of the given program: each meets its contract. (Printed by a program of this repo.) -/
import Derived.Test.YtmambmpohkollaaGreatDoorA1
import Derived.Test.YtmambmpohkollaaGreatDoorCnDI
import Derived.Test.YtmambmpohkollaaGreatDoorFwXY
import Derived.Test.YtmambmpohkollaaGreatDoorProg
namespace Go.Fw.A2
open Go Go.RowKit Go.Proofs Go.Nat9 Go.Fw
attribute [local irreducible] JC JL JE
theorem ca64 : callable Tryz.prog 64 = true := by kernel_rfl
theorem mixed : Tryz.prog.follows .mixedOrders = true := by kernel_rfl
theorem sl22 : slOf Tryz.prog 22 = some (3, 1, 8, [.int .i64 0]) := by kernel_rfl
theorem sl41 : slOf Tryz.prog 41 = some (22, 1, 24, [.slice none 0 0]) := by kernel_rfl
theorem ty22 : tyOf Tryz.prog 22 = some (false, 1) := by kernel_rfl
theorem ty3 : tyOf Tryz.prog 3 = some (false, 1) := by kernel_rfl
end Go.Fw.A2
namespace Go.Fw.K
open Go Go.RowKit Go.Proofs Go.Nat9 Go.Fw Go.Fw.A2
attribute [local irreducible] JC JL JE

open Go.Fw.Cn
theorem eq_con {ad1 ad2 : Option Addr} {c1 c2 : Nat} {L M : List Int} (hL : L.length ≤ 1000000) (hM : M.length ≤ 1000000) :
    ConF Tryz.prog 64 [.slice ad1 L.length c1, .slice ad2 M.length c2] [vCells ad1 (i64s L), vCells ad2 (i64s M)]
      (fun v φo => v = .bool (decide (L = M)) ∧ φo = []) := by
 refine ConF_of Tryz.func64 rfl 26 (_ :: _ :: rp 24) rfl rfl ?_; intro w0; refine JC_st [] [_, _] ?_; refine JC_sr ?_; refine JL_a ?_; refine JL_dv 26 ?_; refine JC_seq ?_; refine JC_sr ?_; refine JL_m ?_; refine JL_len sl22 rfl ?_; refine JL_m ?_; refine JL_len sl22 rfl ?_; refine JL_neq rfl rfl ?_; refine JL_split (fun h10 => ?_) (fun h10 => ?_)
 ·refine JL_dv 26 ?_; refine JC_true rfl ?_; refine JC_sr ?_; refine JL_a ?_; refine JL_dv 26 ?_; refine JC_ret ?_; refine JE_then_ret ?_; refine JE_ret (vs := [_]) [] Tryz.results64 ⟨rfl, rfl⟩ ?_ ?_
  · rw [decide_eq_false (p := L = M) (fun e => h10 (by rw [e]))]; exact ⟨rfl, rfl⟩
  · exact all_nil
 ·refine JL_dv 26 ?_; refine JC_false rfl ?_; refine JC_skip ?_; refine JE_then ?_; refine JC_seq ?_; refine JC_seq ?_
  have _ := hM
  have hlm : L.length = M.length := by omega
  refine JC_region ?_; refine JL_m ?_; refine JL_len sl22 rfl ?_; refine JL_m ?_; refine JL_dv 26 ?_; refine JC_block ?_; refine JC_loopS ((Nat)) (fun (k : Nat) => k ≤ L.length ∧ ∀ j, j < k → L.getD j 0 = M.getD j 0) (fun (k : Nat) => L.length - k) (fun u (k : Nat) => (rn 4 (sc u 4 2 (rn 7 (some (.int .i64 (k : Nat)) :: sc u 14 12 []))))) (fun (k : Nat) => []) (fun (k : Nat) => []) (0) kr ?_ kr ?_ ?_
  · exact ⟨Nat.zero_le _, fun j hj => absurd hj (Nat.not_lt_zero _)⟩
  · exact subset_nil
  intro u k hC; obtain ⟨hk, hj⟩ := hC; refine JC_nm 26 [] [_, _] ?_; refine JC_sr ?_; refine JL_lss rfl rfl ?_; refine JL_split (fun h14 => ?_) (fun h14 => ?_)
  ·refine JL_dv 26 ?_; refine JC_seq ?_; refine JC_true rfl ?_; refine JC_skip ?_; refine JE_then ?_; refine JC_seq ?_; refine JC_block ?_; refine JC_sr ?_; refine JL_m ?_; refine JL_a ?_; refine JL_dv 26 ?_; refine JC_seq ?_; refine JC_drawT mixed 8 [spV 16 [] _, spV 17 [] _, spV 18 [0, 1] _, spV 19 [2] _, spV 20 [] _, spV 21 [] _, spV 22 [4, 5] _, spV 23 [6] _] ⟨oM, oM, OblS_V (fun vals ex ψ => (by refine JL_normQ _ (_ :: _ :: ψ) rfl rfl ?_; refine JL_idx k sl22 rfl rfl rfl om rdg lno ?_; exact vz rfl)), OblS_V (fun vals ex ψ => (by refine JL_normQ _ (_ :: _ :: ψ) rfl rfl ?_; refine JL_loadE ty3 rfl rdg (i64s_get om) ?_; exact vz rfl)), oM, oM, OblS_V (fun vals ex ψ => (by refine JL_normQ _ (_ :: _ :: ψ) rfl rfl ?_; refine JL_idx k sl22 rfl rfl rfl om rdg lno ?_; exact vz rfl)), OblS_V (fun vals ex ψ => (by refine JL_normQ _ (_ :: _ :: ψ) rfl rfl ?_; refine JL_loadE ty3 rfl rdg (i64s_get om) ?_; exact vz rfl)), trivial⟩ kr (fun vals bs => ?_)
   refine JL_normL [_] ⟨26, [(16, _), (17, _), (18, _), (19, _), (20, _), (21, _), (22, _), (23, _)], _⟩ [] [_, _] rfl rfl rfl rfl ?_; refine JL_neq rfl rfl ?_; refine JL_split (fun h24 => ?_) (fun h24 => ?_)
   ·refine JL_du 26 [] [_, _] ?_; refine JC_true rfl ?_; refine JC_sr ?_; refine JL_a ?_; refine JL_dv 26 ?_; refine JC_ret ?_; refine JE_block_ret ?_; refine JE_then_ret ?_; refine JE_nextS_ret ?_; refine JE_block_ret ?_; refine JE_then_ret ?_; refine JE_ret (vs := [_]) [] Tryz.results64 ⟨rfl, rfl⟩ ?_ ?_
    · rw [decide_eq_false (p := L = M) (fun e => h24 (by rw [e]))]; exact ⟨rfl, rfl⟩
    · exact all_nil
   ·refine JL_du 26 [] [_, _] ?_; refine JC_false rfl ?_; refine JC_skip ?_; refine JE_block_normal ?_; refine JE_then ?_; refine JC_region ?_; refine JL_add_to rfl rfl i6o ?_; refine JL_m ?_; refine JL_nv 26 ?_; refine JE_nextS (k + 1) kr ?_ ?_ kr ?_
    · exact ⟨by omega, fun j hj2 => by
      by_cases e : j = k
      · subst e; omega
      · exact hj j om⟩
    · first | omega | (dsimp only; omega)
    · exact subset_app subset_nil ss0
  ·refine JL_dv 26 ?_; refine JC_seq ?_; refine JC_false rfl ?_; refine JC_exit ?_; refine JE_then_exit ?_; refine JE_nextS_exit ?_; refine JE_block_exit ?_; refine JE_then ?_; refine JC_sr ?_; refine JL_a ?_; refine JL_dv 26 ?_; refine JC_ret ?_; refine JE_ret (vs := [_]) [] Tryz.results64 ⟨rfl, rfl⟩ ?_ ?_
   · rw [decide_eq_true (p := L = M) (list_eq_of hlm fun j h2 => hj j om)]; exact ⟨rfl, rfl⟩
   · exact all_nil

theorem idxC_con {ad : Option Addr} {c : Nat} {l : List Rw} (hln : l.length ≤ 1000) {f : FuncId} {caps : List Value} {vc : VP} (hcf : callable Tryz.prog f = true) (p : Nat → Bool) (hc : ∀ k, k < l.length → ConF Tryz.prog f ([(l.getD k dR).v] ++ caps) [vCells (l.getD k dR).ad (i64s (l.getD k dR).L), vc] (fun v φo => v = .bool (p k) ∧ φo = [])) :
    ConF Tryz.prog 62 [.slice ad l.length c, .func (.func f) #[] caps.toArray] [vCells ad (rws l), vRws l, vc]
      (fun v φo => ∃ r, v = .int .i64 r ∧ φo = [] ∧ firstI p l.length r) := by
 refine ConF_of Tryz.func62 rfl 19 (_ :: _ :: rp 17) rfl rfl ?_; intro w0; refine JC_st [] [_, _, _] ?_; refine JC_sr ?_; refine JL_a ?_; refine JL_dv 19 ?_; refine JC_seq ?_; refine JC_sr ?_; refine JL_m ?_; refine JL_len sl41 rfl ?_; refine JL_m ?_; refine JL_dv 19 ?_; refine JC_block ?_; refine JC_loopS ((Nat)) (fun (k : Nat) => k ≤ l.length ∧ ∀ j, j < k → p j = false) (fun (k : Nat) => l.length - k) (fun u (k : Nat) => (rn 4 (sc u 4 2 (rn 2 (some (.int .i64 (k : Nat)) :: sc u 9 10 []))))) (fun (k : Nat) => []) (fun (k : Nat) => []) (0) kr ?_ kr ?_ ?_
 · exact ⟨Nat.zero_le _, fun j hj => absurd hj (Nat.not_lt_zero j)⟩
 · exact subset_nil
 intro u k hC; obtain ⟨hk, hpf⟩ := hC; refine JC_nm 19 [] [_, _, _] ?_; refine JC_sr ?_; refine JL_lss rfl rfl ?_; refine JL_split (fun h9 => ?_) (fun h9 => ?_)
 ·refine JL_dv 19 ?_; refine JC_seq ?_; refine JC_true rfl ?_; refine JC_skip ?_; refine JE_then ?_; refine JC_seq ?_; refine JC_block ?_; refine JC_seq ?_
  have hkm := rw_mem (l := l) (i := k) om
  refine JC_rwGet (f := false) (l.getD k dR) am hkm ?_; refine JC_region ?_; refine JL_m ?_; refine JL_a ?_; refine JL_dv 19 ?_; refine JC_sr ?_; refine JL_m ?_; refine JL_m ?_; refine JL_m ?_; refine JL_idx k sl41 rfl rfl om om rdg (by rw [rws_length]; omega) ?_; refine JL_loadE ty22 rfl rdg (rws_get om) ?_; refine JL_callD (Asks.cons (holds_of_mem am) (Asks.cons (holds_of_mem am) Asks.nil)) (hc k om) rfl hcf ⟨rfl, rfl⟩ ?_; rintro _ _ ⟨rfl, rfl⟩; refine JL_du 19 [] [_, _, _, _] ?_; refine JC_cond rfl (fun hb => ?_) (fun hb => ?_)
  ·have h16 := hb
   refine JC_sr ?_; refine JL_m ?_; refine JL_a ?_; refine JL_dv 19 ?_; refine JC_ret ?_; refine JE_block_ret ?_; refine JE_then_ret ?_; refine JE_nextS_ret ?_; refine JE_block_ret ?_; refine JE_then_ret ?_; refine JE_ret (vs := [_]) [] Tryz.results62 ⟨rfl, rfl⟩ ?_ ?_
   · exact ⟨_, rfl, rfl, .inr ⟨k, by omega, rfl, h16, hpf⟩⟩
   · exact all_nil
  ·have h16 := hb
   refine JC_skip ?_; refine JE_block_normal ?_; refine JE_then ?_; refine JC_region ?_; refine JL_add_to rfl rfl i6o ?_; refine JL_m ?_; refine JL_nv 19 ?_; refine JE_nextS (k + 1) kr ?_ ?_ kr ?_
   · exact ⟨by omega, fun j hj => by
     by_cases h : j = k
     · subst h; exact h16
     · exact hpf j om⟩
   · first | omega | (dsimp only; omega)
   · exact subset_app subset_nil (ssS ss0)
 ·refine JL_dv 19 ?_; refine JC_seq ?_; refine JC_false rfl ?_; refine JC_exit ?_; refine JE_then_exit ?_; refine JE_nextS_exit ?_; refine JE_block_exit ?_; refine JE_then ?_; refine JC_sr ?_; refine JL_a ?_; refine JL_dv 19 ?_; refine JC_ret ?_; refine JE_ret (vs := [_]) [] Tryz.results62 ⟨rfl, rfl⟩ ?_ ?_
  · exact ⟨_, rfl, rfl, .inl ⟨rfl, fun j hj => hpf j om⟩⟩
  · exact all_nil

theorem mcl1_con {adu : Option Addr} {r : Rw} {ad : Option Addr} {c : Nat} {L : List Int} (hL : L.length ≤ 1000) (hr : r.L.length ≤ 1000) :
    ConF Tryz.prog 63 [r.v, ptrAt adu 0] [vCells r.ad (i64s r.L), vCells adu [.slice ad L.length c], vCells ad (i64s L)]
      (fun v φo => v = .bool (decide (L = r.L)) ∧ φo = []) := by
 refine ConF_of Tryz.func63 rfl 7 (_ :: _ :: rp 5) rfl rfl ?_; intro w0; refine JC_st [] [_, _, _] ?_; refine JC_sr ?_; refine JL_a ?_; refine JL_dv 7 ?_; refine JC_sr ?_; refine JL_loadE ty22 rfl rdg rfl ?_; refine JL_m ?_; refine JL_callF' (Asks.cons (holds_of_mem am) (Asks.cons (holds_of_mem am) Asks.nil)) (eq_con om om) rfl ca64 ⟨rfl, rfl, rfl⟩ ?_; rintro _ _ ⟨rfl, rfl⟩; refine JL_a ?_; refine JL_du 7 [] [_, _, _] ?_; refine JC_ret ?_; refine JE_ret (vs := [_]) [] Tryz.results63 ⟨rfl, rfl⟩ ?_ ?_
 · exact ⟨rfl, rfl⟩
 · exact all_nil

theorem mcl2_con {adu : Option Addr} {r : Rw} {ad : Option Addr} {c : Nat} {L : List Int} (hL : L.length ≤ 1000) (hr : r.L.length ≤ 1000) :
    ConF Tryz.prog 65 [r.v, ptrAt adu 0] [vCells r.ad (i64s r.L), vCells adu [.slice ad L.length c], vCells ad (i64s L)]
      (fun v φo => v = .bool (decide (L = r.L)) ∧ φo = []) := by
 refine ConF_of Tryz.func65 rfl 7 (_ :: _ :: rp 5) rfl rfl ?_; intro w0; refine JC_st [] [_, _, _] ?_; refine JC_sr ?_; refine JL_a ?_; refine JL_dv 7 ?_; refine JC_sr ?_; refine JL_loadE ty22 rfl rdg rfl ?_; refine JL_m ?_; refine JL_callF' (Asks.cons (holds_of_mem am) (Asks.cons (holds_of_mem am) Asks.nil)) (eq_con om om) rfl ca64 ⟨rfl, rfl, rfl⟩ ?_; rintro _ _ ⟨rfl, rfl⟩; refine JL_a ?_; refine JL_du 7 [] [_, _, _] ?_; refine JC_ret ?_; refine JE_ret (vs := [_]) [] Tryz.results65 ⟨rfl, rfl⟩ ?_ ?_
 · exact ⟨rfl, rfl⟩
 · exact all_nil

end Go.Fw.K
