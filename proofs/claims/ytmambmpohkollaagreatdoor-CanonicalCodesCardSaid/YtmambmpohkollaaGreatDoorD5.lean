/- Walks through functions of the given program: each meets its contract. (Printed by a program of this repo.) -/
import Derived.Test.YtmambmpohkollaaGreatDoorD4
import Derived.Test.YtmambmpohkollaaGreatDoorProg
namespace Go.Fw.D5
open Go Go.RowKit Go.Proofs Go.Nat9 Go.Fw
attribute [local irreducible] JC JL JE
theorem ca23 : callable Tryz.prog 23 = true := by kernel_rfl
theorem ca38 : callable Tryz.prog 38 = true := by kernel_rfl
theorem ca43 : callable Tryz.prog 43 = true := by kernel_rfl
theorem ca46 : callable Tryz.prog 46 = true := by kernel_rfl
theorem ty25 : tyOf Tryz.prog 25 = some (true, 3) := by kernel_rfl
end Go.Fw.D5
namespace Go.Fw.K
open Go Go.RowKit Go.Proofs Go.Nat9 Go.Fw Go.Fw.D5
attribute [local irreducible] JC JL JE

open Go.Fw.Cn
set_option maxHeartbeats 4000000 in
theorem rmap_con {a1 a2 a3 : Option Addr} {c1 c2 c3 : Nat} {O R : List Int} {K : List Cn.Lk} (hO : O.length ≤ 1000) (hR : R.length ≤ 1000) (hK : K.length ≤ 1000) {a4 a5 a6 : Option Addr} {c4 c5 c6 : Nat} {O2 R2 : List Int} {K2 : List Cn.Lk} (hO2 : O2.length ≤ 1000) (hR2 : R2.length ≤ 1000) (hK2 : K2.length ≤ 1000) :
    ConF Tryz.prog 23 [.agg #[.slice a1 O.length c1, .slice a2 R.length c2, .slice a3 K.length c3], .agg #[.slice a4 O2.length c4, .slice a5 R2.length c5, .slice a6 K2.length c6]] [vCells a1 (i64s O), vCells a2 (i64s R), vCells a3 (lks K), vCells a4 (i64s O2), vCells a5 (i64s R2), vCells a6 (lks K2)]
      (fun v φo => ∃ (o : Option (List Nat × List Nat)) (e : Int) (ad1 : Option Addr) (d1 : Nat) (ad2 : Option Addr) (d2 : Nat), v = .tuple #[.slice ad1 (zs (m1 o)).length d1, .slice ad2 (zs (m2 o)).length d2, .int .i64 e] ∧ φo = [vCells ad1 (i64s (zs (m1 o))), vCells ad2 (i64s (zs (m2 o)))] ∧ MapS O R K O2 R2 K2 o e) := by
 refine ConF_of Tryz.func23 rfl 37 (_ :: _ :: rp 35) rfl rfl ?_; intro w0; refine JC_st [] [_, _, _, _, _, _] ?_; refine JC_sr ?_; refine JL_box rfl rfl (fun b2 => ?_); refine JL_box rfl rfl (fun b3 => ?_); refine JL_a ?_; refine JL_a ?_; refine JL_a ?_; refine JL_du 37 [box _ _ [_, _, _], box _ _ [_, _, _]] [_, _, _, _, _, _] ?_; refine JC_seq ?_; refine JC_sr ?_; refine JL_loadA (vs := [_, _, _]) 0 ty25 rfl rfl ⟨rfl, rfl, rfl, trivial⟩ ?_; refine JL_callF' (Asks.cons (holds_of_mem am) (Asks.cons (holds_of_mem am) (Asks.cons (holds_of_mem am) Asks.nil))) (rval_con hO hR hK) rfl ca46 ⟨rfl, rfl⟩ ?_; rintro _ _ ⟨rfl, rfl⟩; refine JL_split (fun h11 => ?_) (fun h11 => ?_)
 ·refine JL_not rfl ?_; rw [Bool.not_true]; refine JL_m ?_; refine JL_gy ?_; refine JL_loadA (vs := [_, _, _]) 1 ty25 rfl rfl ⟨rfl, rfl, rfl, trivial⟩ ?_; refine JL_gy ?_; refine JL_callF' (Asks.cons (holds_of_mem am) (Asks.cons (holds_of_mem am) (Asks.cons (holds_of_mem am) Asks.nil))) (rval_con hO2 hR2 hK2) rfl ca46 ⟨rfl, rfl⟩ ?_; rintro _ _ ⟨rfl, rfl⟩; refine JL_split (fun h15 => ?_) (fun h15 => ?_)
  ·refine JL_gy ?_; refine JL_not rfl ?_; rw [Bool.not_true]; refine JL_pick_f rfl rfl ?_; refine JL_du 37 [box _ _ [_, _, _], box _ _ [_, _, _]] [_, _, _, _, _, _] ?_; refine JC_false rfl ?_; refine JC_skip ?_; refine JE_then ?_; refine JC_seq ?_; refine JC_sr ?_; refine JL_loadA (vs := [_, _, _]) 0 ty25 rfl rfl ⟨rfl, rfl, rfl, trivial⟩ ?_; refine JL_callF' (Asks.cons (holds_of_mem am) (Asks.cons (holds_of_mem am) (Asks.cons (holds_of_mem am) Asks.nil))) (rchk_con hO hR hK) rfl ca38 ⟨rfl, rfl⟩ ?_; rintro _ _ ⟨rfl, rfl⟩; refine JL_neq rfl rfl ?_; refine JL_split (fun h20 => ?_) (fun h20 => ?_)
   ·refine JL_m ?_; refine JL_gn ?_; refine JL_gn ?_; refine JL_gn ?_; refine JL_pick_t rfl rfl ?_; refine JL_du 37 [box _ _ [_, _, _], box _ _ [_, _, _]] [_, _, _, _, _, _] ?_; refine JC_true rfl ?_; refine JC_sr ?_; refine JL_a ?_; refine JL_a ?_; refine JL_a ?_; refine JL_dv 37 ?_; refine JC_ret ?_; refine JE_then_ret ?_
    have hb : bigG O R := Classical.byContradiction fun h => h20 (errG_ok h11 h)
    refine JE_addView (f := true) (p := vCells none (i64s (zs (m1 none)))) (fun _ _ j u hj => by simp [i64s, zs, m1] at hj) ?_; refine JE_addView (f := true) (p := vCells none (i64s (zs (m2 none)))) (fun _ _ j u hj => by simp [i64s, zs, m2] at hj) ?_; refine JE_ret (vs := [_, _, _]) [vCells none (i64s (zs (m1 none))), vCells none (i64s (zs (m2 none)))] Tryz.results23 ⟨rfl, rfl, rfl, rfl⟩ ?_ ?_
    · exact ⟨none, 6, none, 0, none, 0, rfl, rfl, .inr (.inl ⟨h11, h15, .inl hb, rfl, rfl⟩)⟩
    · exact (all_cons am (all_cons am all_nil))
   ·refine JL_m ?_; refine JL_gy ?_; refine JL_loadA (vs := [_, _, _]) 1 ty25 rfl rfl ⟨rfl, rfl, rfl, trivial⟩ ?_; refine JL_gy ?_; refine JL_callF' (Asks.cons (holds_of_mem am) (Asks.cons (holds_of_mem am) (Asks.cons (holds_of_mem am) Asks.nil))) (rchk_con hO2 hR2 hK2) rfl ca38 ⟨rfl, rfl⟩ ?_; rintro _ _ ⟨rfl, rfl⟩; refine JL_gy ?_; refine JL_neq rfl rfl ?_; refine JL_split (fun h24 => ?_) (fun h24 => ?_)
    ·refine JL_pick_f rfl rfl ?_; refine JL_du 37 [box _ _ [_, _, _], box _ _ [_, _, _]] [_, _, _, _, _, _] ?_; refine JC_true rfl ?_; refine JC_sr ?_; refine JL_a ?_; refine JL_a ?_; refine JL_a ?_; refine JL_dv 37 ?_; refine JC_ret ?_; refine JE_then_ret ?_
     have hb : bigG O2 R2 := Classical.byContradiction fun h => h24 (errG_ok h15 h)
     refine JE_addView (f := true) (p := vCells none (i64s (zs (m1 none)))) (fun _ _ j u hj => by simp [i64s, zs, m1] at hj) ?_; refine JE_addView (f := true) (p := vCells none (i64s (zs (m2 none)))) (fun _ _ j u hj => by simp [i64s, zs, m2] at hj) ?_; refine JE_ret (vs := [_, _, _]) [vCells none (i64s (zs (m1 none))), vCells none (i64s (zs (m2 none)))] Tryz.results23 ⟨rfl, rfl, rfl, rfl⟩ ?_ ?_
     · exact ⟨none, 6, none, 0, none, 0, rfl, rfl, .inr (.inl ⟨h11, h15, .inr hb, rfl, rfl⟩)⟩
     · exact (all_cons am (all_cons am all_nil))
    ·refine JL_pick_f rfl rfl ?_; refine JL_du 37 [box _ _ [_, _, _], box _ _ [_, _, _]] [_, _, _, _, _, _] ?_; refine JC_false rfl ?_; refine JC_skip ?_; refine JE_then ?_; refine JC_seq ?_
     have he1 : errG O R K = 0 := Classical.not_not.1 h20
     have he2 : errG O2 R2 K2 = 0 := Classical.not_not.1 h24
     obtain ⟨_, hO6, hR6⟩ := errG_0.1 he1; obtain ⟨_, hO26, hR26⟩ := errG_0.1 he2
     have hb1 : ¬ bigG O R := by unfold bigG; omega
     have hb2 : ¬ bigG O2 R2 := by unfold bigG; omega
     refine JC_region ?_; refine JL_loadA (vs := [_, _, _]) 0 ty25 rfl rfl ⟨rfl, rfl, rfl, trivial⟩ ?_; refine JL_loadA (vs := [_, _, _]) 1 ty25 rfl rfl ⟨rfl, rfl, rfl, trivial⟩ ?_; refine JL_callF' (Asks.cons (holds_of_mem am) (Asks.cons (holds_of_mem am) (Asks.cons (holds_of_mem am) (Asks.cons (holds_of_mem am) (Asks.cons (holds_of_mem am) (Asks.cons (holds_of_mem am) Asks.nil)))))) (rmaps_con hO hR hK hO2 hR2 hK2 h11 h15 hO6 hR6) rfl ca43 ⟨rfl, rfl, rfl⟩ ?_; rintro _ _ ⟨o29, n29, x129, d129, x229, d229, rfl, rfl, hm29⟩; refine JL_m ?_; refine JL_extract (v := .slice x129 (zs (m1 o29)).length d129) rfl rfl ?_; refine JL_extract (v := .slice x229 (zs (m2 o29)).length d229) rfl rfl ?_; refine JL_extract (v := .int .i64 (n29 : Nat)) rfl rfl ?_; refine JL_a ?_; refine JL_a ?_; refine JL_a ?_; refine JL_du 37 [box _ _ [_, _, _], box _ _ [_, _, _]] [_, _, _, _, _, _, _, _] ?_; refine JC_seq ?_; refine JC_sr ?_; refine JL_m ?_; refine JL_eql rfl rfl ?_; refine JL_split (fun h34 => ?_) (fun h34 => ?_)
     ·refine JL_dv 37 ?_; refine JC_true rfl ?_; refine JC_sr ?_; refine JL_a ?_; refine JL_a ?_; refine JL_a ?_; refine JL_dv 37 ?_; refine JC_ret ?_; refine JE_then_ret ?_; refine JE_addView (f := true) (p := vCells none (i64s (zs (m1 none)))) (fun _ _ j u hj => by simp [i64s, zs, m1] at hj) ?_; refine JE_addView (f := true) (p := vCells none (i64s (zs (m2 none)))) (fun _ _ j u hj => by simp [i64s, zs, m2] at hj) ?_; refine JE_ret (vs := [_, _, _]) [vCells none (i64s (zs (m1 none))), vCells none (i64s (zs (m2 none)))] Tryz.results23 ⟨rfl, rfl, rfl, rfl⟩ ?_ ?_
      · exact ⟨none, 7, none, 0, none, 0, rfl, rfl, (by have h := (mapsR_0 hm29).1 om; subst h; exact mapsR_S h11 h15 hb1 hb2 hm29)⟩
      · exact (all_cons am (all_cons am all_nil))
     ·refine JL_dv 37 ?_; refine JC_false rfl ?_; refine JC_skip ?_; refine JE_then ?_; refine JC_sr ?_; refine JL_m ?_; refine JL_m ?_; refine JL_a ?_; refine JL_a ?_; refine JL_a ?_; refine JL_dv 37 ?_; refine JC_ret ?_; refine JE_ret (vs := [_, _, _]) [vCells x129 (i64s (zs (m1 o29))), vCells x229 (i64s (zs (m2 o29)))] Tryz.results23 ⟨rfl, rfl, rfl, rfl⟩ ?_ ?_
      · exact ⟨o29, 0, x129, d129, x229, d229, rfl, rfl, (by have h := mapsR_S h11 h15 hb1 hb2 hm29; rwa [mErr_0.2 (fun e => h34 (by rw [(mapsR_0 hm29).2 e]; rfl))] at h)⟩
      · exact (all_cons am (all_cons am all_nil))
  ·refine JL_gy ?_; refine JL_not rfl ?_; rw [Bool.not_false]; refine JL_pick_f rfl rfl ?_; refine JL_du 37 [box _ _ [_, _, _], box _ _ [_, _, _]] [_, _, _, _, _, _] ?_; refine JC_true rfl ?_; refine JC_sr ?_; refine JL_a ?_; refine JL_a ?_; refine JL_a ?_; refine JL_dv 37 ?_; refine JC_ret ?_; refine JE_then_ret ?_; refine JE_addView (f := true) (p := vCells none (i64s (zs (m1 none)))) (fun _ _ j u hj => by simp [i64s, zs, m1] at hj) ?_; refine JE_addView (f := true) (p := vCells none (i64s (zs (m2 none)))) (fun _ _ j u hj => by simp [i64s, zs, m2] at hj) ?_; refine JE_ret (vs := [_, _, _]) [vCells none (i64s (zs (m1 none))), vCells none (i64s (zs (m2 none)))] Tryz.results23 ⟨rfl, rfl, rfl, rfl⟩ ?_ ?_
   · exact ⟨none, 1, none, 0, none, 0, rfl, rfl, .inl ⟨fun h => h15 h.2, rfl, rfl⟩⟩
   · exact (all_cons am (all_cons am all_nil))
 ·refine JL_not rfl ?_; rw [Bool.not_false]; refine JL_m ?_; refine JL_gn ?_; refine JL_gn ?_; refine JL_gn ?_; refine JL_pick_t rfl rfl ?_; refine JL_du 37 [box _ _ [_, _, _], box _ _ [_, _, _]] [_, _, _, _, _, _] ?_; refine JC_true rfl ?_; refine JC_sr ?_; refine JL_a ?_; refine JL_a ?_; refine JL_a ?_; refine JL_dv 37 ?_; refine JC_ret ?_; refine JE_then_ret ?_; refine JE_addView (f := true) (p := vCells none (i64s (zs (m1 none)))) (fun _ _ j u hj => by simp [i64s, zs, m1] at hj) ?_; refine JE_addView (f := true) (p := vCells none (i64s (zs (m2 none)))) (fun _ _ j u hj => by simp [i64s, zs, m2] at hj) ?_; refine JE_ret (vs := [_, _, _]) [vCells none (i64s (zs (m1 none))), vCells none (i64s (zs (m2 none)))] Tryz.results23 ⟨rfl, rfl, rfl, rfl⟩ ?_ ?_
  · exact ⟨none, 1, none, 0, none, 0, rfl, rfl, .inl ⟨fun h => h11 h.1, rfl, rfl⟩⟩
  · exact (all_cons am (all_cons am all_nil))

set_option maxHeartbeats 1000000 in
theorem ralike_con {a1 a2 a3 : Option Addr} {c1 c2 c3 : Nat} {O R : List Int} {K : List Cn.Lk} (hO : O.length ≤ 1000) (hR : R.length ≤ 1000) (hK : K.length ≤ 1000) {a4 a5 a6 : Option Addr} {c4 c5 c6 : Nat} {O2 R2 : List Int} {K2 : List Cn.Lk} (hO2 : O2.length ≤ 1000) (hR2 : R2.length ≤ 1000) (hK2 : K2.length ≤ 1000) :
    ConF Tryz.prog 25 [.agg #[.slice a1 O.length c1, .slice a2 R.length c2, .slice a3 K.length c3], .agg #[.slice a4 O2.length c4, .slice a5 R2.length c5, .slice a6 K2.length c6]] [vCells a1 (i64s O), vCells a2 (i64s R), vCells a3 (lks K), vCells a4 (i64s O2), vCells a5 (i64s R2), vCells a6 (lks K2)]
      (fun v φo => ∃ (o : Option (List Nat × List Nat)) (e : Int), v = .bool (decide (e = 0)) ∧ φo = [] ∧ MapS O R K O2 R2 K2 o e) := by
 refine ConF_of Tryz.func25 rfl 17 (_ :: _ :: rp 15) rfl rfl ?_; intro w0; refine JC_st [] [_, _, _, _, _, _] ?_; refine JC_sr ?_; refine JL_box rfl rfl (fun b2 => ?_); refine JL_box rfl rfl (fun b3 => ?_); refine JL_a ?_; refine JL_du 17 [box _ _ [_, _, _], box _ _ [_, _, _]] [_, _, _, _, _, _] ?_; refine JC_sr ?_; refine JL_loadA (vs := [_, _, _]) 0 ty25 rfl rfl ⟨rfl, rfl, rfl, trivial⟩ ?_; refine JL_loadA (vs := [_, _, _]) 1 ty25 rfl rfl ⟨rfl, rfl, rfl, trivial⟩ ?_; refine JL_callF' (Asks.cons (holds_of_mem am) (Asks.cons (holds_of_mem am) (Asks.cons (holds_of_mem am) (Asks.cons (holds_of_mem am) (Asks.cons (holds_of_mem am) (Asks.cons (holds_of_mem am) Asks.nil)))))) (rmap_con hO hR hK hO2 hR2 hK2) rfl ca23 ⟨rfl, rfl, rfl⟩ ?_; rintro _ _ ⟨o11, e11, ad111, d111, ad211, d211, rfl, rfl, hm11⟩; refine JL_m ?_; refine JL_extract (v := .slice ad111 (zs (m1 o11)).length d111) rfl rfl ?_; refine JL_extract (v := .slice ad211 (zs (m2 o11)).length d211) rfl rfl ?_; refine JL_extract (v := .int .i64 e11) rfl rfl ?_; refine JL_a ?_; refine JL_a ?_; refine JL_a ?_
 refine JL_du 17 [box _ _ [_, _, _], box _ _ [_, _, _]] [_, _, _, _, _, _, _, _] ?_; refine JC_sr ?_; refine JL_m ?_; refine JL_eql rfl rfl ?_; refine JL_a ?_; refine JL_dv 17 ?_; refine JC_ret ?_; refine JE_ret (vs := [_]) [] Tryz.results25 ⟨rfl, rfl⟩ ?_ ?_
 · exact ⟨o11, e11, rfl, rfl, hm11⟩
 · exact all_nil

set_option maxHeartbeats 2000000 in
theorem rsym_con {a1 a2 a3 : Option Addr} {c1 c2 c3 : Nat} {O R : List Int} {K : List Cn.Lk} (hO : O.length ≤ 1000) (hR : R.length ≤ 1000) (hK : K.length ≤ 1000) :
    ConF Tryz.prog 15 [.agg #[.slice a1 O.length c1, .slice a2 R.length c2, .slice a3 K.length c3]] [vCells a1 (i64s O), vCells a2 (i64s R), vCells a3 (lks K)]
      (fun v φo => ∃ n : Nat, v = .tuple #[.int .i64 (n : Nat), .int .i64 (errG O R K)] ∧ φo = [] ∧ n = if errG O R K = 0 then nM (matG O R K) (matG O R K) R.length else 0) := by
 refine ConF_of Tryz.func15 rfl 21 (_ :: rp 20) rfl rfl ?_; intro w0; refine JC_st [] [_, _, _] ?_; refine JC_sr ?_; refine JL_box rfl rfl (fun b1 => ?_); refine JL_a ?_; refine JL_a ?_; refine JL_du 21 [box _ _ [_, _, _]] [_, _, _] ?_; refine JC_seq ?_; refine JC_sr ?_; refine JL_loadA (vs := [_, _, _]) 0 ty25 rfl rfl ⟨rfl, rfl, rfl, trivial⟩ ?_; refine JL_callF' (Asks.cons (holds_of_mem am) (Asks.cons (holds_of_mem am) (Asks.cons (holds_of_mem am) Asks.nil))) (rchk_con hO hR hK) rfl ca38 ⟨rfl, rfl⟩ ?_; rintro _ _ ⟨rfl, rfl⟩; refine JL_a ?_; refine JL_du 21 [box _ _ [_, _, _]] [_, _, _] ?_; refine JC_sr ?_; refine JL_m ?_; refine JL_neq rfl rfl ?_; refine JL_split (fun h11 => ?_) (fun h11 => ?_)
 ·refine JL_dv 21 ?_; refine JC_true rfl ?_; refine JC_sr ?_; refine JL_m ?_; refine JL_a ?_; refine JL_a ?_; refine JL_dv 21 ?_; refine JC_ret ?_; refine JE_then_ret ?_; refine JE_ret (vs := [_, _]) [] Tryz.results15 ⟨rfl, rfl, rfl⟩ ?_ ?_
  · exact ⟨0, rfl, rfl, (if_neg h11).symm⟩
  · exact all_nil
 ·refine JL_dv 21 ?_; refine JC_false rfl ?_; refine JC_skip ?_; refine JE_then ?_; refine JC_seq ?_
  have he0 : errG O R K = 0 := Classical.not_not.1 h11
  obtain ⟨hv, hO6, hR6⟩ := errG_0.1 he0; refine JC_region ?_; refine JL_loadA (vs := [_, _, _]) 0 ty25 rfl rfl ⟨rfl, rfl, rfl, trivial⟩ ?_; refine JL_loadA (vs := [_, _, _]) 0 ty25 rfl rfl ⟨rfl, rfl, rfl, trivial⟩ ?_; refine JL_callF' (Asks.cons (holds_of_mem am) (Asks.cons (holds_of_mem am) (Asks.cons (holds_of_mem am) (Asks.cons (holds_of_mem am) (Asks.cons (holds_of_mem am) (Asks.cons (holds_of_mem am) Asks.nil)))))) (rmaps_con hO hR hK hO hR hK hv hv hO6 hR6) rfl ca43 ⟨rfl, rfl, rfl⟩ ?_; rintro _ _ ⟨o16, n16, x116, d116, x216, d216, rfl, rfl, hm16⟩; refine JL_m ?_; refine JL_extract (v := .slice x116 (zs (m1 o16)).length d116) rfl rfl ?_; refine JL_extract (v := .slice x216 (zs (m2 o16)).length d216) rfl rfl ?_; refine JL_extract (v := .int .i64 (n16 : Nat)) rfl rfl ?_; refine JL_a ?_; refine JL_a ?_; refine JL_a ?_; refine JL_du 21 [box _ _ [_, _, _]] [_, _, _, _, _] ?_; refine JC_sr ?_; refine JL_m ?_; refine JL_a ?_; refine JL_a ?_; refine JL_dv 21 ?_; refine JC_ret ?_; refine JE_ret (vs := [_, _]) [] Tryz.results15 ⟨rfl, rfl, rfl⟩ ?_ ?_
  · exact ⟨n16, by rw [he0]; rfl, rfl, by rw [if_pos he0]; exact mapsR_self hm16⟩
  · exact all_nil

theorem bintT_con {ad1 ad2 : Option Addr} {c1 c2 : Nat} {L M : List Int} (hL : L.length ≤ 1000000) (hM : M.length ≤ 1000000) (h : L = M) : ConF Tryz.prog 16 [.slice ad1 L.length c1, .slice ad2 M.length c2] [vCells ad1 (i64s L), vCells ad2 (i64s M)] (fun v φo => v = .bool true ∧ φo = []) := by
  have h2 := bint_con (ad1 := ad1) (ad2 := ad2) (c1 := c1) (c2 := c2) hL hM
  rwa [decide_eq_true h] at h2

end Go.Fw.K
