/- Walks through functions of the given program: each meets its contract. (Printed by a program of this repo.) -/
import Derived.Test.YtmambmpohkollaaGreatDoorC1
import Derived.Test.YtmambmpohkollaaGreatDoorD2
import Derived.Test.YtmambmpohkollaaGreatDoorCnV
import Derived.Test.YtmambmpohkollaaGreatDoorProg
namespace Go.Fw.T2
open Go Go.RowKit Go.Proofs Go.Nat9 Go.Fw
attribute [local irreducible] JC JL JE
theorem ca20 : callable Tryz.prog 20 = true := by kernel_rfl
theorem ca21 : callable Tryz.prog 21 = true := by kernel_rfl
theorem ca22 : callable Tryz.prog 22 = true := by kernel_rfl
theorem ca8 : callable Tryz.prog 8 = true := by kernel_rfl
theorem ca9 : callable Tryz.prog 9 = true := by kernel_rfl
theorem fo25_1 : fOf Tryz.prog 25 1 = some 1 := by kernel_rfl
theorem mixed : Tryz.prog.follows .mixedOrders = true := by kernel_rfl
theorem sl22 : slOf Tryz.prog 22 = some (3, 1, 8, [.int .i64 0]) := by kernel_rfl
theorem sl41 : slOf Tryz.prog 41 = some (22, 1, 24, [.slice none 0 0]) := by kernel_rfl
theorem ty22 : tyOf Tryz.prog 22 = some (false, 1) := by kernel_rfl
theorem ty25 : tyOf Tryz.prog 25 = some (true, 3) := by kernel_rfl
theorem ty3 : tyOf Tryz.prog 3 = some (false, 1) := by kernel_rfl
end Go.Fw.T2
namespace Go.Fw.K
open Go Go.RowKit Go.Proofs Go.Nat9 Go.Fw Go.Fw.T2
attribute [local irreducible] JC JL JE

open Go.Fw.Cn
set_option maxHeartbeats 4000000 in
set_option maxRecDepth 20000 in
theorem canonicalLeads_con {a1 a2 a3 : Option Addr} {c1 c2 c3 : Nat} {O R : List Int} {K : List Cn.Lk} {a4 a5 a6 : Option Addr} {c4 c5 c6 : Nat} {O2 R2 : List Int} {K2 : List Cn.Lk} :
    ConF Tryz.prog 5 [.agg #[.slice a1 O.length c1, .slice a2 R.length c2, .slice a3 K.length c3], .agg #[.slice a4 O2.length c4, .slice a5 R2.length c5, .slice a6 K2.length c6]] [vCells a1 (i64s O), vCells a2 (i64s R), vCells a3 (lks K), vCells a4 (i64s O2), vCells a5 (i64s R2), vCells a6 (lks K2)]
      (fun v φo => v = .bool (true) ∧ φo = []) := by
 refine ConF_of Tryz.func5 rfl 127 (_ :: _ :: rp 125) rfl rfl ?_; intro w0; refine JC_st [] [_, _, _, _, _, _] ?_; refine JC_sr ?_; refine JL_box rfl rfl (fun b2 => ?_); refine JL_box rfl rfl (fun b3 => ?_); refine JL_a ?_; refine JL_du 127 [box _ _ [_, _, _], box _ _ [_, _, _]] [_, _, _, _, _, _] ?_; refine JC_seq ?_; refine JC_sr ?_; refine JL_callF' Asks.nil (awake_con) rfl ca8 rfl ?_; rintro _ _ ⟨rfl, rfl⟩; refine JL_not rfl ?_; rw [Bool.not_true]; refine JL_m ?_; refine JL_gy ?_; refine JL_loadA (vs := [_, _, _]) 0 ty25 rfl rfl ⟨rfl, rfl, rfl, trivial⟩ ?_; refine JL_gy ?_; refine JL_callF' Asks.nil (few_con) rfl ca9 ⟨rfl, rfl⟩ ?_; rintro _ _ ⟨rfl, rfl⟩; refine JL_split (fun h18 => ?_) (fun h18 => ?_)
 ·refine JL_gy ?_; refine JL_not rfl ?_; rw [Bool.not_true]; refine JL_pick_f rfl rfl ?_; refine JL_m ?_; refine JL_gy ?_; refine JL_loadA (vs := [_, _, _]) 1 ty25 rfl rfl ⟨rfl, rfl, rfl, trivial⟩ ?_; refine JL_gy ?_; refine JL_callF' Asks.nil (few_con) rfl ca9 ⟨rfl, rfl⟩ ?_; rintro _ _ ⟨rfl, rfl⟩; refine JL_split (fun h23 => ?_) (fun h23 => ?_)
  ·refine JL_gy ?_; refine JL_not rfl ?_; rw [Bool.not_true]; refine JL_pick_f rfl rfl ?_; refine JL_du 127 [box _ _ [_, _, _], box _ _ [_, _, _]] [_, _, _, _, _, _] ?_; refine JC_false rfl ?_; refine JC_skip ?_; refine JE_then ?_; refine JC_seq ?_
   have hfw_h18 := h18
   unfold fewG at hfw_h18
   obtain ⟨bO_h18, bR_h18, bK_h18, _⟩ := hfw_h18
   have hfw_h23 := h23
   unfold fewG at hfw_h23
   obtain ⟨bO_h23, bR_h23, bK_h23, _⟩ := hfw_h23; refine JC_region ?_; refine JL_loadA (vs := [_, _, _]) 0 ty25 rfl rfl ⟨rfl, rfl, rfl, trivial⟩ ?_; refine JL_loadA (vs := [_, _, _]) 1 ty25 rfl rfl ⟨rfl, rfl, rfl, trivial⟩ ?_; refine JL_callF' (Asks.cons (holds_of_mem am) (Asks.cons (holds_of_mem am) (Asks.cons (holds_of_mem am) (Asks.cons (holds_of_mem am) (Asks.cons (holds_of_mem am) (Asks.cons (holds_of_mem am) Asks.nil)))))) (map_con om om om om om om) rfl ca20 ⟨rfl, rfl, rfl⟩ ?_; rintro _ _ ⟨o30, e30, ad130, d130, ad230, d230, rfl, rfl, hm30⟩; refine JL_m ?_; refine JL_extract (v := .slice ad130 (zs (m1 o30)).length d130) rfl rfl ?_; refine JL_extract (v := .slice ad230 (zs (m2 o30)).length d230) rfl rfl ?_; refine JL_extract (v := .int .i64 e30) rfl rfl ?_; refine JL_a ?_; refine JL_a ?_; refine JL_a ?_; refine JL_du 127 [box _ _ [_, _, _], box _ _ [_, _, _]] [_, _, _, _, _, _, _, _] ?_; refine JC_seq ?_; refine JC_sr ?_; refine JL_m ?_; refine JL_neq rfl rfl ?_; refine JL_split (fun h35 => ?_) (fun h35 => ?_)
   ·refine JL_dv 127 ?_; refine JC_true rfl ?_; refine JC_seq ?_; obtain rfl := map_none hm30 h35
    have hz1 : (zs (m1 none)).length = 0 := rfl
    have hz2 : (zs (m2 none)).length = 0 := rfl
    refine JC_region ?_; refine JL_m ?_; refine JL_len sl22 rfl ?_; refine JL_eql rfl rfl ?_; refine JL_split (fun h38 => ?_) (fun h38 => ?_)
    ·refine JL_m ?_; refine JL_gy ?_; refine JL_m ?_; refine JL_gy ?_; refine JL_len sl22 rfl ?_; refine JL_gy ?_; refine JL_eql rfl rfl ?_; refine JL_split (fun h42 => ?_) (fun h42 => ?_)
     ·refine JL_pick_t rfl rfl ?_; refine JL_a ?_; refine JL_dv 127 ?_; refine JC_ret ?_; refine JE_then_ret ?_; refine JE_ret (vs := [_]) [] Tryz.results5 ⟨rfl, rfl⟩ ?_ ?_
      · exact ⟨rfl, rfl⟩
      · exact all_nil
     · exact absurd om h42
    · exact absurd om h38
   ·refine JL_dv 127 ?_; refine JC_false rfl ?_; refine JC_skip ?_; refine JE_then ?_; refine JC_seq ?_; obtain ⟨p, q, rfl, hv1, hv2, s1, s2, s3, s4, hl1, hl2, hp, hq, hmp⟩ := map_some hm30 (Classical.not_not.1 h35); rw [show m1 (some (p, q)) = p from rfl, show m2 (some (p, q)) = q from rfl]
    have hpl := hp.len
    have hql := hq.len
    refine JC_region ?_; refine JL_loadA (vs := [_, _, _]) 0 ty25 rfl rfl ⟨rfl, rfl, rfl, trivial⟩ ?_; refine JL_callF' (Asks.cons (holds_of_mem am) (Asks.cons (holds_of_mem am) (Asks.cons (holds_of_mem am) Asks.nil))) (rmat_con om om om) rfl ca21 ⟨rfl, rfl⟩ ?_; rintro _ _ ⟨ad46, c46, D46, e46, rfl, rfl, hm46⟩; refine JL_m ?_; refine JL_extract (v := .slice ad46 D46.length c46) rfl rfl ?_; refine JL_extract (v := .int .i64 e46) rfl rfl ?_; refine JL_a ?_; refine JL_a ?_; refine JL_du 127 [box _ _ [_, _, _], box _ _ [_, _, _]] [_, _, _, _, _, _, _, _, _, _] ?_; refine JC_sr ?_; refine JL_loadA (vs := [_, _, _]) 1 ty25 rfl rfl ⟨rfl, rfl, rfl, trivial⟩ ?_; refine JL_callF' (Asks.cons (holds_of_mem am) (Asks.cons (holds_of_mem am) (Asks.cons (holds_of_mem am) Asks.nil))) (rmat_con om om om) rfl ca21 ⟨rfl, rfl⟩ ?_; rintro _ _ ⟨ad51, c51, D51, e51, rfl, rfl, hm51⟩; refine JL_m ?_; refine JL_extract (v := .slice ad51 D51.length c51) rfl rfl ?_; refine JL_extract (v := .int .i64 e51) rfl rfl ?_; refine JL_a ?_; refine JL_a ?_
    refine JL_du 127 [box _ _ [_, _, _], box _ _ [_, _, _]] [_, _, _, _, _, _, _, _, _, _, _, _] ?_; refine JC_seq ?_; refine JC_seq ?_; obtain ⟨hE46, hD46⟩ := mat_ok hv1 hm46; obtain ⟨hE51, hD51⟩ := mat_ok hv2 hm51; obtain ⟨hdl1, hdr1⟩ := matG_rows hD46; obtain ⟨hdl2, hdr2⟩ := matG_rows hD51
    have hzp := zs_length p
    have hzq := zs_length q
    refine JC_region ?_; refine JL_m ?_; refine JL_neq rfl rfl ?_; refine JL_split (fun h55 => ?_) (fun h55 => ?_)
    · exact absurd hE46 h55
    ·refine JL_m ?_; refine JL_gy ?_; refine JL_m ?_; refine JL_gy ?_; refine JL_neq rfl rfl ?_; refine JL_split (fun h58 => ?_) (fun h58 => ?_)
     · exact absurd hE51 h58
     ·refine JL_pick_f rfl rfl ?_; refine JL_m ?_; refine JL_gy ?_; refine JL_m ?_; refine JL_gy ?_; refine JL_m ?_; refine JL_gy ?_; refine JL_len sl41 rfl ?_; refine JL_gy ?_; refine JL_callF' (Asks.cons (holds_of_mem am) Asks.nil) (bord_con (n := D51.length) (p := p) (by rw [hdl2, ← hl1]; exact hp) om) rfl ca22 ⟨rfl, rfl, rfl⟩ ?_; rintro _ _ ⟨rfl, rfl⟩; refine JL_gy ?_; refine JL_not rfl ?_; rw [Bool.not_true]; refine JL_pick_f rfl rfl ?_; refine JL_m ?_; refine JL_gy ?_; refine JL_m ?_; refine JL_gy ?_; refine JL_len sl41 rfl ?_; refine JL_gy ?_; refine JL_m ?_; refine JL_gy ?_; refine JL_len sl41 rfl ?_; refine JL_gy ?_; refine JL_neq rfl rfl ?_; refine JL_split (fun h72 => ?_) (fun h72 => ?_)
      · exact absurd om h72
      ·refine JL_pick_f rfl rfl ?_; refine JL_m ?_; refine JL_gy ?_; refine JL_fieldAddr fo25_1 rfl ?_; refine JL_gy ?_; refine JL_load 0 ty22 rfl rfl rfl ?_; refine JL_gy ?_; refine JL_len sl22 rfl ?_; refine JL_gy ?_; refine JL_fieldAddr fo25_1 rfl ?_; refine JL_gy ?_; refine JL_load 1 ty22 rfl rfl rfl ?_; refine JL_gy ?_; refine JL_len sl22 rfl ?_; refine JL_gy ?_; refine JL_neq rfl rfl ?_; refine JL_split (fun h81 => ?_) (fun h81 => ?_)
       · exact absurd om h81
       ·refine JL_pick_f rfl rfl ?_; refine JL_m ?_; refine JL_gy ?_; refine JL_m ?_; refine JL_gy ?_; refine JL_fieldAddr fo25_1 rfl ?_; refine JL_gy ?_; refine JL_load 1 ty22 rfl rfl rfl ?_; refine JL_gy ?_; refine JL_len sl22 rfl ?_; refine JL_gy ?_; refine JL_callF' (Asks.cons (holds_of_mem am) Asks.nil) (bord_con (n := R2.length) (p := q) (by rw [← hl2]; exact hq) om) rfl ca22 ⟨rfl, rfl, rfl⟩ ?_; rintro _ _ ⟨rfl, rfl⟩; refine JL_gy ?_; refine JL_not rfl ?_; rw [Bool.not_true]; refine JL_pick_f rfl rfl ?_; refine JL_du 127 [box _ _ [_, _, _], box _ _ [_, _, _]] [_, _, _, _, _, _, _, _, _, _, _, _] ?_; refine JC_false rfl ?_; refine JC_skip ?_; refine JE_then ?_; refine JC_seq ?_; refine JC_sr ?_; refine JL_a ?_; refine JL_dv 127 ?_; refine JC_block ?_; refine JC_loopS ((Nat)) (fun (i : Nat) => i ≤ D46.length) (fun (i : Nat) => D46.length - i) (fun u (i : Nat) => (rn 4 (some (u 4) :: rn 7 (some (.int .i64 (i : Nat)) :: some (u 13) :: rn 77 (sc u 91 36 []))))) (fun (i : Nat) => []) (fun (i : Nat) => []) (0) kr ?_ kr ?_ ?_
        · exact Nat.zero_le _
        · exact subset_nil
        intro u i hi; refine JC_nm 127 [box _ _ [_, _, _], box _ _ [_, _, _]] [_, _, _, _, _, _, _, _, _, _, _, _] ?_; refine JC_seq ?_; refine JC_sr ?_; refine JL_m ?_; refine JL_m ?_; refine JL_len sl41 rfl ?_; refine JL_lss rfl rfl ?_; refine JL_split (fun h94 => ?_) (fun h94 => ?_)
        ·refine JL_dv 127 ?_; refine JC_true rfl ?_; refine JC_skip ?_; refine JE_then ?_; refine JC_seq ?_; refine JC_block ?_; refine JC_sr ?_; refine JL_a ?_; refine JL_dv 127 ?_; refine JC_block ?_; refine JC_loopS ((Nat)) (fun (k : Nat) => k ≤ R.length) (fun (k : Nat) => R.length - k) (fun u (k : Nat) => (rn 4 (some (u 4) :: rn 8 (some (.int .i64 (k : Nat)) :: rn 83 (sc u 97 30 []))))) (fun (k : Nat) => []) (fun (k : Nat) => []) (0) kr ?_ kr ?_ ?_
         · exact Nat.zero_le _
         · exact subset_nil
         intro u k hk; refine JC_nm 127 [box _ _ [_, _, _], box _ _ [_, _, _]] [_, _, _, _, _, _, _, _, _, _, _, _] ?_; refine JC_seq ?_; refine JC_seq ?_
         have hrl1 := hdr1 _ (rw_mem (l := D46) (i := i) om)
         refine JC_region ?_; refine JL_m ?_; refine JL_m ?_; refine JL_m ?_; refine JL_idx i sl41 rfl rfl rfl om rdg (by rw [rws_length]; omega) ?_; refine JL_loadE ty22 rfl rdg (rws_get om) ?_; refine JL_len sl22 rfl ?_; refine JL_lss rfl rfl ?_; refine JL_split (fun h103 => ?_) (fun h103 => ?_)
         ·refine JL_dv 127 ?_; refine JC_true rfl ?_; refine JC_skip ?_; refine JE_then ?_; refine JC_seq ?_; refine JC_block ?_; refine JC_seq ?_
          have hrm1 := rw_mem (l := D46) (i := i) om
          have hpi := hp.get (i := i) om
          have hqk := hq.get (i := k) om
          have hrm2 := rw_mem (l := D51) (i := p.getD i 0) om
          have hrl2 := hdr2 _ hrm2
          have hee : (D46.getD i dR).L.getD k 0 = (D51.getD (p.getD i 0) dR).L.getD (q.getD k 0) 0 := by rw [Rls_get om, Rls_get om, hD46, hD51]; exact lead_eq (by rw [matG_len]; exact hp) hq hmp (by rw [matG_len]; omega) om
          refine JC_rwGet (f := true) (D46.getD i dR) am hrm1 ?_; refine JC_rwGet (f := true) (D51.getD (p.getD i 0) dR) am hrm2 ?_; refine JC_drawT mixed 20 [spV 106 [] _, spV 107 [] _, spV 108 [0, 1] _, spV 109 [2] _, spV 110 [] _, spV 111 [3, 4] _, spV 112 [5] _, spV 113 [] _, spV 114 [] _, spV 115 [] _, spV 116 [8, 9] _, spV 117 [10] _, spV 118 [7, 11] _, spV 119 [12] _, spV 120 [] _, spV 121 [] _, spV 122 [14, 15] _, spV 123 [16] _, spV 124 [13, 17] _, spV 125 [18] _] ⟨oM, oM, OblS_V (fun vals ex ψ => (by refine JL_normQ _ (_ :: _ :: _ :: _ :: _ :: _ :: _ :: _ :: _ :: _ :: _ :: _ :: _ :: _ :: ψ) rfl rfl ?_; refine JL_idx i sl41 rfl rfl rfl om rdg (by rw [rws_length]; omega) ?_; exact vz rfl)), OblS_V (fun vals ex ψ => (by refine JL_normQ _ (_ :: _ :: _ :: _ :: _ :: _ :: _ :: _ :: _ :: _ :: _ :: _ :: _ :: _ :: ψ) rfl rfl ?_; refine JL_loadE ty22 rfl rdg (rws_get om) ?_; exact vz rfl)), oM, OblS_V (fun vals ex ψ => (by refine JL_normQ _ (_ :: _ :: _ :: _ :: _ :: _ :: _ :: _ :: _ :: _ :: _ :: _ :: _ :: _ :: ψ) rfl rfl ?_; refine JL_idx k sl22 rfl rfl rfl om rdg lno ?_; exact vz rfl)), OblS_V (fun vals ex ψ => (by refine JL_normQ _ (_ :: _ :: _ :: _ :: _ :: _ :: _ :: _ :: _ :: _ :: _ :: _ :: _ :: _ :: ψ) rfl rfl ?_; refine JL_loadE ty3 rfl rdg (i64s_get om) ?_; exact vz rfl)), oM, oM, oM, OblS_V (fun vals ex ψ => (by
            refine JL_normQ _ (_ :: _ :: _ :: _ :: _ :: _ :: _ :: _ :: _ :: _ :: _ :: _ :: _ :: _ :: ψ) rfl rfl ?_; refine JL_idx i sl22 rfl rfl rfl om rdg lno ?_; exact vz rfl)), OblS_V (fun vals ex ψ => (by refine JL_normQ _ (_ :: _ :: _ :: _ :: _ :: _ :: _ :: _ :: _ :: _ :: _ :: _ :: _ :: _ :: ψ) rfl rfl ?_; refine JL_loadE ty3 rfl rdg (i64s_get om) ?_; exact vz rfl)), OblS_V (fun vals ex ψ => (by refine JL_normQ _ (_ :: _ :: _ :: _ :: _ :: _ :: _ :: _ :: _ :: _ :: _ :: _ :: _ :: _ :: ψ) rfl rfl ?_; refine JL_idx (p.getD i 0) sl41 rfl rfl (zs_get om) om rdg (by rw [rws_length]; omega) ?_; exact vz rfl)), OblS_V (fun vals ex ψ => (by refine JL_normQ _ (_ :: _ :: _ :: _ :: _ :: _ :: _ :: _ :: _ :: _ :: _ :: _ :: _ :: _ :: ψ) rfl rfl ?_; refine JL_loadE ty22 rfl rdg (rws_get om) ?_; exact vz rfl)), oM, oM, OblS_V (fun vals ex ψ => (by refine JL_normQ _ (_ :: _ :: _ :: _ :: _ :: _ :: _ :: _ :: _ :: _ :: _ :: _ :: _ :: _ :: ψ) rfl rfl ?_; refine JL_idx k sl22 rfl rfl rfl om rdg lno ?_; exact vz rfl)), OblS_V (fun vals ex ψ => (by refine JL_normQ _ (_ :: _ :: _ :: _ :: _ :: _ :: _ :: _ :: _ :: _ :: _ :: _ :: _ :: _ :: ψ) rfl rfl ?_; refine JL_loadE ty3 rfl rdg (i64s_get om) ?_; exact vz rfl)), OblS_V (fun vals ex ψ => (by
            refine JL_normQ _ (_ :: _ :: _ :: _ :: _ :: _ :: _ :: _ :: _ :: _ :: _ :: _ :: _ :: _ :: ψ) rfl rfl ?_; refine JL_idx (q.getD k 0) sl22 rfl rfl (zs_get om) om rdg lno ?_; exact vz rfl)), OblS_V (fun vals ex ψ => (by refine JL_normQ _ (_ :: _ :: _ :: _ :: _ :: _ :: _ :: _ :: _ :: _ :: _ :: _ :: _ :: _ :: ψ) rfl rfl ?_; refine JL_loadE ty3 rfl rdg (i64s_get om) ?_; exact vz rfl)), trivial⟩ kr (fun vals bs => ?_)
          refine JL_normL [_] ⟨127, [(106, _), (107, _), (108, _), (109, _), (110, _), (111, _), (112, _), (113, _), (114, _), (115, _), (116, _), (117, _), (118, _), (119, _), (120, _), (121, _), (122, _), (123, _), (124, _), (125, _)], _⟩ [box _ _ [_, _, _], box _ _ [_, _, _]] [_, _, _, _, _, _, _, _, _, _, _, _, _, _] rfl rfl rfl rfl ?_; refine JL_neq rfl rfl ?_; refine JL_split (fun h126 => ?_) (fun h126 => ?_)
          · exact absurd hee h126
          ·refine JL_du 127 [box _ _ [_, _, _], box _ _ [_, _, _]] [_, _, _, _, _, _, _, _, _, _, _, _, _, _] ?_; refine JC_false rfl ?_; refine JC_skip ?_; refine JE_block_normal ?_; refine JE_then ?_; refine JC_region ?_; refine JL_m ?_; refine JL_add_to rfl rfl i6o ?_; refine JL_a ?_; refine JL_nv 127 ?_; refine JE_nextS (k + 1) kr ?_ ?_ kr ?_
           · exact (by omega : k + 1 ≤ R.length)
           · first | omega | (dsimp only; omega)
           · exact subset_app subset_nil (ssS (ssS ss0))
         ·refine JL_dv 127 ?_; refine JC_false rfl ?_; refine JC_exit ?_; refine JE_then_exit ?_; refine JE_nextS_exit ?_; refine JE_block_exit ?_; refine JE_block_normal ?_; refine JE_then ?_; refine JC_region ?_; refine JL_m ?_; refine JL_add_to rfl rfl i6o ?_; refine JL_a ?_; refine JL_nv 127 ?_; refine JE_nextS (i + 1) kr ?_ ?_ kr ?_
          · exact (by omega : i + 1 ≤ D46.length)
          · first | omega | (dsimp only; omega)
          · exact subset_app subset_nil ss0
        ·refine JL_dv 127 ?_; refine JC_false rfl ?_; refine JC_exit ?_; refine JE_then_exit ?_; refine JE_nextS_exit ?_; refine JE_block_exit ?_; refine JE_then ?_; refine JC_sr ?_; refine JL_a ?_; refine JL_dv 127 ?_; refine JC_ret ?_; refine JE_ret (vs := [_]) [] Tryz.results5 ⟨rfl, rfl⟩ ?_ ?_
         · exact ⟨rfl, rfl⟩
         · exact all_nil
  ·refine JL_gy ?_; refine JL_not rfl ?_; rw [Bool.not_false]; refine JL_pick_f rfl rfl ?_; refine JL_du 127 [box _ _ [_, _, _], box _ _ [_, _, _]] [_, _, _, _, _, _] ?_; refine JC_true rfl ?_; refine JC_sr ?_; refine JL_callF' Asks.nil (awake_con) rfl ca8 rfl ?_; rintro _ _ ⟨rfl, rfl⟩; refine JL_a ?_; refine JL_du 127 [box _ _ [_, _, _], box _ _ [_, _, _]] [_, _, _, _, _, _] ?_; refine JC_ret ?_; refine JE_then_ret ?_; refine JE_ret (vs := [_]) [] Tryz.results5 ⟨rfl, rfl⟩ ?_ ?_
   · exact ⟨rfl, rfl⟩
   · exact all_nil
 ·refine JL_gy ?_; refine JL_not rfl ?_; rw [Bool.not_false]; refine JL_pick_f rfl rfl ?_; refine JL_m ?_; refine JL_gn ?_; refine JL_gn ?_; refine JL_gn ?_; refine JL_pick_t rfl rfl ?_; refine JL_du 127 [box _ _ [_, _, _], box _ _ [_, _, _]] [_, _, _, _, _, _] ?_; refine JC_true rfl ?_; refine JC_sr ?_; refine JL_callF' Asks.nil (awake_con) rfl ca8 rfl ?_; rintro _ _ ⟨rfl, rfl⟩; refine JL_a ?_; refine JL_du 127 [box _ _ [_, _, _], box _ _ [_, _, _]] [_, _, _, _, _, _] ?_; refine JC_ret ?_; refine JE_then_ret ?_; refine JE_ret (vs := [_]) [] Tryz.results5 ⟨rfl, rfl⟩ ?_ ?_
  · exact ⟨rfl, rfl⟩
  · exact all_nil

end Go.Fw.K
