/- Walks through functions of the given program: each meets its contract. (Printed by a program of this repo.) -/
import Derived.Test.YtmambmpohkollaaGreatDoorD5
import Derived.Test.YtmambmpohkollaaGreatDoorD6
import Derived.Test.YtmambmpohkollaaGreatDoorProg
namespace Go.Fw.T4
open Go Go.RowKit Go.Proofs Go.Nat9 Go.Fw
attribute [local irreducible] JC JL JE
theorem ca10 : callable Tryz.prog 10 = true := by kernel_rfl
theorem ca11 : callable Tryz.prog 11 = true := by kernel_rfl
theorem ca12 : callable Tryz.prog 12 = true := by kernel_rfl
theorem ca13 : callable Tryz.prog 13 = true := by kernel_rfl
theorem ca14 : callable Tryz.prog 14 = true := by kernel_rfl
theorem ca15 : callable Tryz.prog 15 = true := by kernel_rfl
theorem ca16 : callable Tryz.prog 16 = true := by kernel_rfl
theorem ca8 : callable Tryz.prog 8 = true := by kernel_rfl
theorem ca9 : callable Tryz.prog 9 = true := by kernel_rfl
theorem ty25 : tyOf Tryz.prog 25 = some (true, 3) := by kernel_rfl
end Go.Fw.T4
namespace Go.Fw.K
open Go Go.RowKit Go.Proofs Go.Nat9 Go.Fw Go.Fw.T4
attribute [local irreducible] JC JL JE

open Go.Fw.Cn
set_option maxHeartbeats 4000000 in
theorem canonicalCodes_con {a1 a2 a3 : Option Addr} {c1 c2 c3 : Nat} {O R : List Int} {K : List Cn.Lk} :
    ConF Tryz.prog 3 [.agg #[.slice a1 O.length c1, .slice a2 R.length c2, .slice a3 K.length c3]] [vCells a1 (i64s O), vCells a2 (i64s R), vCells a3 (lks K)]
      (fun v φo => v = .bool (true) ∧ φo = []) := by
 refine ConF_of Tryz.func3 rfl 81 (_ :: rp 80) rfl rfl ?_; intro w0; refine JC_st [] [_, _, _] ?_; refine JC_sr ?_; refine JL_box rfl rfl (fun b1 => ?_); refine JL_a ?_; refine JL_du 81 [box _ _ [_, _, _]] [_, _, _] ?_; refine JC_seq ?_; refine JC_sr ?_; refine JL_callF' Asks.nil (awake_con) rfl ca8 rfl ?_; rintro _ _ ⟨rfl, rfl⟩; refine JL_not rfl ?_; rw [Bool.not_true]; refine JL_m ?_; refine JL_gy ?_; refine JL_loadA (vs := [_, _, _]) 0 ty25 rfl rfl ⟨rfl, rfl, rfl, trivial⟩ ?_; refine JL_gy ?_; refine JL_callF' Asks.nil (few_con) rfl ca9 ⟨rfl, rfl⟩ ?_; rintro _ _ ⟨rfl, rfl⟩; refine JL_split (fun h19 => ?_) (fun h19 => ?_)
 ·refine JL_gy ?_; refine JL_not rfl ?_; rw [Bool.not_true]; refine JL_pick_f rfl rfl ?_; refine JL_du 81 [box _ _ [_, _, _]] [_, _, _] ?_; refine JC_false rfl ?_; refine JC_skip ?_; refine JE_then ?_; refine JC_seq ?_
  have hfw_h19 := h19
  unfold fewG at hfw_h19
  obtain ⟨bO_h19, bR_h19, bK_h19, _⟩ := hfw_h19; refine JC_region ?_; refine JL_loadA (vs := [_, _, _]) 0 ty25 rfl rfl ⟨rfl, rfl, rfl, trivial⟩ ?_; refine JL_callF' (Asks.cons (holds_of_mem am) (Asks.cons (holds_of_mem am) (Asks.cons (holds_of_mem am) Asks.nil))) (Code_con om om om) rfl ca10 ⟨rfl, rfl⟩ ?_; rintro _ _ ⟨ad25, c25, B25, rfl, rfl, hB25, hN25, hc25⟩; refine JL_m ?_; refine JL_extract (v := .slice ad25 B25.length c25) rfl rfl ?_; refine JL_extract (v := .int .i64 (errG O R K)) rfl rfl ?_; refine JL_a ?_; refine JL_a ?_; refine JL_du 81 [box _ _ [_, _, _]] [_, _, _, _] ?_; refine JC_sr ?_; refine JL_loadA (vs := [_, _, _]) 0 ty25 rfl rfl ⟨rfl, rfl, rfl, trivial⟩ ?_; refine JL_callF' (Asks.cons (holds_of_mem am) (Asks.cons (holds_of_mem am) (Asks.cons (holds_of_mem am) Asks.nil))) (name_con om om om) rfl ca11 ⟨rfl, rfl⟩ ?_; rintro _ _ ⟨T30, rfl, rfl, hT30, hN30⟩; refine JL_m ?_; refine JL_extract (v := .string (bs T30)) rfl rfl ?_; refine JL_extract (v := .int .i64 (errG O R K)) rfl rfl ?_; refine JL_a ?_; refine JL_a ?_
  refine JL_du 81 [box _ _ [_, _, _]] [_, _, _, _] ?_; refine JC_sr ?_; refine JL_loadA (vs := [_, _, _]) 0 ty25 rfl rfl ⟨rfl, rfl, rfl, trivial⟩ ?_; refine JL_callF' (Asks.cons (holds_of_mem am) (Asks.cons (holds_of_mem am) (Asks.cons (holds_of_mem am) Asks.nil))) (sym_con om om om) rfl ca12 ⟨rfl, rfl⟩ ?_; rintro _ _ ⟨n35, rfl, rfl, hn35⟩; refine JL_m ?_; refine JL_extract (v := .int .i64 (n35 : Nat)) rfl rfl ?_; refine JL_extract (v := .int .i64 (errG O R K)) rfl rfl ?_; refine JL_a ?_; refine JL_a ?_; refine JL_du 81 [box _ _ [_, _, _]] [_, _, _, _] ?_; refine JC_sr ?_; refine JL_loadA (vs := [_, _, _]) 0 ty25 rfl rfl ⟨rfl, rfl, rfl, trivial⟩ ?_; refine JL_callF' (Asks.cons (holds_of_mem am) (Asks.cons (holds_of_mem am) (Asks.cons (holds_of_mem am) Asks.nil))) (rcode_con om om om) rfl ca13 ⟨rfl, rfl⟩ ?_; rintro _ _ ⟨ad40, c40, B40, rfl, rfl, hB40, hN40⟩; refine JL_m ?_; refine JL_extract (v := .slice ad40 B40.length c40) rfl rfl ?_; refine JL_extract (v := .int .i64 (errG O R K)) rfl rfl ?_; refine JL_a ?_; refine JL_a ?_
  refine JL_du 81 [box _ _ [_, _, _]] [_, _, _, _, _] ?_; refine JC_sr ?_; refine JL_loadA (vs := [_, _, _]) 0 ty25 rfl rfl ⟨rfl, rfl, rfl, trivial⟩ ?_; refine JL_callF' (Asks.cons (holds_of_mem am) (Asks.cons (holds_of_mem am) (Asks.cons (holds_of_mem am) Asks.nil))) (rname_con om om om) rfl ca14 ⟨rfl, rfl⟩ ?_; rintro _ _ ⟨T45, rfl, rfl, hT45, hN45⟩; refine JL_m ?_; refine JL_extract (v := .string (bs T45)) rfl rfl ?_; refine JL_extract (v := .int .i64 (errG O R K)) rfl rfl ?_; refine JL_a ?_; refine JL_a ?_; refine JL_du 81 [box _ _ [_, _, _]] [_, _, _, _, _] ?_; refine JC_sr ?_; refine JL_loadA (vs := [_, _, _]) 0 ty25 rfl rfl ⟨rfl, rfl, rfl, trivial⟩ ?_; refine JL_callF' (Asks.cons (holds_of_mem am) (Asks.cons (holds_of_mem am) (Asks.cons (holds_of_mem am) Asks.nil))) (rsym_con om om om) rfl ca15 ⟨rfl, rfl⟩ ?_; rintro _ _ ⟨n50, rfl, rfl, hn50⟩; refine JL_m ?_; refine JL_extract (v := .int .i64 (n50 : Nat)) rfl rfl ?_; refine JL_extract (v := .int .i64 (errG O R K)) rfl rfl ?_; refine JL_a ?_; refine JL_a ?_
  refine JL_du 81 [box _ _ [_, _, _]] [_, _, _, _, _] ?_; refine JC_seq ?_
  have hBB := codes_eq hB25 hN25 hB40 hN40
  have hbl := codes_len hB25 hN25
  have hTT := names_eq hT30 hN30 hT45 hN45
  have hnn : n35 = n50 := hn35.trans hn50.symm
  rw [← hBB, ← hTT, ← hnn]; refine JC_region ?_; refine JL_m ?_; refine JL_m ?_; refine JL_eql rfl rfl ?_; refine JL_split (fun h55 => ?_) (fun h55 => ?_)
  ·refine JL_m ?_; refine JL_gy ?_; refine JL_m ?_; refine JL_gy ?_; refine JL_m ?_; refine JL_gy ?_; refine JL_eql rfl rfl ?_; refine JL_split (fun h59 => ?_) (fun h59 => ?_)
   ·refine JL_pick_t rfl rfl ?_; refine JL_m ?_; refine JL_gy ?_; refine JL_m ?_; refine JL_gy ?_; refine JL_m ?_; refine JL_gy ?_; refine JL_eql rfl rfl ?_; refine JL_split (fun h64 => ?_) (fun h64 => ?_)
    ·refine JL_pick_t rfl rfl ?_; refine JL_m ?_; refine JL_gy ?_; refine JL_m ?_; refine JL_gy ?_; refine JL_m ?_; refine JL_gy ?_; refine JL_callF' (Asks.cons (holds_of_mem am) (Asks.cons (holds_of_mem am) Asks.nil)) (bint_con (L := B25) (M := B25) om om) rfl ca16 ⟨rfl, rfl, rfl⟩ ?_; rintro _ _ ⟨rfl, rfl⟩; refine JL_split (fun h69 => ?_) (fun h69 => ?_)
     ·refine JL_pick_t rfl rfl ?_; refine JL_m ?_; refine JL_gy ?_; refine JL_m ?_; refine JL_gy ?_; refine JL_m ?_; refine JL_gy ?_; refine JL_eqlS rfl rfl ?_; refine JL_splitV (fun h74 => ?_) (fun h74 => ?_)
      ·refine JL_pick_t rfl rfl ?_; refine JL_m ?_; refine JL_gy ?_; refine JL_m ?_; refine JL_gy ?_; refine JL_m ?_; refine JL_gy ?_; refine JL_eql rfl rfl ?_; refine JL_split (fun h79 => ?_) (fun h79 => ?_)
       ·refine JL_pick_t rfl rfl ?_; refine JL_a ?_; refine JL_du 81 [box _ _ [_, _, _]] [_, _, _, _, _] ?_; refine JC_ret ?_; refine JE_ret (vs := [_]) [] Tryz.results3 ⟨rfl, rfl⟩ ?_ ?_
        · exact ⟨rfl, rfl⟩
        · exact all_nil
       · exact absurd rfl h79
      · exact absurd h74 (by rw [bs_beq_true rfl]; decide)
     · exact absurd rfl h69
    · exact absurd rfl h64
   · exact absurd rfl h59
  · exact absurd rfl h55
 ·refine JL_gy ?_; refine JL_not rfl ?_; rw [Bool.not_false]; refine JL_pick_f rfl rfl ?_; refine JL_du 81 [box _ _ [_, _, _]] [_, _, _] ?_; refine JC_true rfl ?_; refine JC_sr ?_; refine JL_callF' Asks.nil (awake_con) rfl ca8 rfl ?_; rintro _ _ ⟨rfl, rfl⟩; refine JL_a ?_; refine JL_du 81 [box _ _ [_, _, _]] [_, _, _] ?_; refine JC_ret ?_; refine JE_then_ret ?_; refine JE_ret (vs := [_]) [] Tryz.results3 ⟨rfl, rfl⟩ ?_ ?_
  · exact ⟨rfl, rfl⟩
  · exact all_nil

end Go.Fw.K
