/- Walks through functions of the given program: each meets its contract. (Printed by a program of this repo.) -/
import Derived.Test.YtjkbamfcoiikmaaGreatDoorMC
import Derived.Test.YtjkbamfcoiikmaaGreatDoorPqN
import Derived.Test.YtjkbamfcoiikmaaGreatDoorProg
namespace Go.Fw.M15
open Go Go.RowKit Go.Proofs Go.Nat9 Go.Fw
attribute [local irreducible] JC JL JE
theorem ca41 : callable Tryz.prog 41 = true := by kernel_rfl
theorem ca60 : callable Tryz.prog 60 = true := by kernel_rfl
theorem ca71 : callable Tryz.prog 71 = true := by kernel_rfl
theorem ca72 : callable Tryz.prog 72 = true := by kernel_rfl
theorem ca73 : callable Tryz.prog 73 = true := by kernel_rfl
theorem ca74 : callable Tryz.prog 74 = true := by kernel_rfl
theorem ca76 : callable Tryz.prog 76 = true := by kernel_rfl
theorem fo60_0 : fOf Tryz.prog 60 0 = some 0 := by kernel_rfl
theorem fo60_1 : fOf Tryz.prog 60 1 = some 1 := by kernel_rfl
theorem fo60_2 : fOf Tryz.prog 60 2 = some 2 := by kernel_rfl
theorem mixed : Tryz.prog.follows .mixedOrders = true := by kernel_rfl
theorem sl111 : slOf Tryz.prog 111 = some (9, 1, 16, [.string ⟨#[]⟩]) := by kernel_rfl
theorem sl57 : slOf Tryz.prog 57 = some (58, 1, 8, [.pointer none]) := by kernel_rfl
theorem ty3 : tyOf Tryz.prog 3 = some (false, 1) := by kernel_rfl
theorem ty4 : tyOf Tryz.prog 4 = some (false, 1) := by kernel_rfl
theorem ty57 : tyOf Tryz.prog 57 = some (false, 1) := by kernel_rfl
theorem ty58 : tyOf Tryz.prog 58 = some (false, 1) := by kernel_rfl
end Go.Fw.M15
namespace Go.Fw.K
open Go Go.RowKit Go.Proofs Go.Nat9 Go.Fw Go.Fw.M15
attribute [local irreducible] JC JL JE

open Go.Fw.Pq
set_option maxHeartbeats 2000000 in
theorem text_con0 {b n : Nat} {q : Bool} {ad : Option Addr} {cap : Nat} {ks : List AT} (hf : Fit (.mk b n q ad cap ks)) (hn : (lvs (er (.mk b n q ad cap ks))).Nodup) (hx : ∀ x ∈ lvs (er (.mk b n q ad cap ks)), x < 100) (hL : (lvs (er (.mk b n q ad cap ks))).length ≤ 1000)
    (IH : ∀ k ∈ ks, ConA Tryz.prog 41 [ptr k] [vA k] (fun v φo => v = .string (bs (tx (k))) ∧ φo = [])) :
    ConA Tryz.prog 41 [nptr b] [vA (.mk b n q ad cap ks)]
      (fun v φo => v = .string (bs (tx (.mk b n q ad cap ks))) ∧ φo = []) := by
 have hlen := text_len hf.ok hx
 refine ConA_of Tryz.func41 rfl 63 (_ :: rp 62) rfl rfl ?_; intro w0; refine JC_st [] [_] ?_; refine JC_sr ?_; refine JL_a ?_; refine JL_dv 63 ?_; refine JC_seq ?_; refine JC_seq ?_
 have hcp := hf.cap
 have hln := hf.len
 refine JC_atOpen (f := true) (b := b) (n := n) (q := q) (ad := ad) (cap := cap) (ks := ks) am ?_; refine JC_region ?_; refine JL_m ?_; refine JL_nilCheckE rfl ?_; refine JL_fieldAddrE fo60_2 rfl rdg (show 0 < (ncells n q ad ks.length cap).length from Nat.zero_lt_succ _) ?_; refine JL_loadE ty57 rfl rdg rfl ?_; refine JL_len sl57 rfl ?_; refine JL_eql rfl rfl ?_; refine JL_split (fun h14 => ?_) (fun h14 => ?_)
 ·have hks0 : ks = [] := List.eq_nil_of_length_eq_zero om
  refine JL_dv 63 ?_; refine JC_true rfl ?_; refine JC_sr ?_; refine JL_m ?_; refine JL_nilCheckE rfl ?_; refine JL_fieldAddrE fo60_0 rfl rdg (show 0 < (ncells n q ad ks.length cap).length from Nat.zero_lt_succ _) ?_; refine JL_loadE ty3 rfl rdg rfl ?_; refine JL_callF' Asks.nil (itoa_con (hx n (by rw [hks0]; exact List.mem_cons_self))) rfl ca71 ⟨rfl, rfl⟩ ?_; rintro _ _ ⟨rfl, rfl⟩; refine JL_a ?_; refine JL_du 63 [] [_, _, _, _] ?_; refine JC_ret ?_; refine JE_then_ret ?_; refine JE_ret (vs := [_]) [] Tryz.results41 ⟨rfl, rfl⟩ ?_ ?_
  · subst hks0; exact ⟨rfl, rfl⟩
  · exact all_nil
 ·have hks : ks ≠ [] := fun e => h14 (by rw [e]; rfl)
  refine JL_dv 63 ?_; refine JC_false rfl ?_; refine JC_skip ?_; refine JE_then ?_; refine JC_sr ?_; refine JL_m ?_; refine JL_nilCheckE rfl ?_; refine JL_fieldAddrE fo60_2 rfl rdg (show 0 < (ncells n q ad ks.length cap).length from Nat.zero_lt_succ _) ?_; refine JL_loadE ty57 rfl rdg rfl ?_; refine JL_callO0 (AsksO.cons am AsksO.nil) (ncl_con hln) rfl ca60 ⟨rfl, rfl⟩ ?_; rintro _ _ _ ⟨ad24, c24, rfl, hc24, rfl, rfl⟩; refine JL_norm _ [osl _ _ _ _ _ _] [_, _, _, _] rfl rfl rfl ?_; refine JL_a ?_; refine JL_du 63 [osl _ _ _ _ _ _] [_, _, _, _] ?_; refine JC_sr ?_; refine JL_a ?_; refine JL_a ?_; refine JL_dv 63 ?_; refine JC_seq ?_; refine JC_sr ?_; refine JL_m ?_; refine JL_nilCheckE rfl ?_; refine JL_fieldAddrE fo60_1 rfl rdg (show 0 < (ncells n q ad ks.length cap).length from Nat.zero_lt_succ _) ?_; refine JL_loadE ty4 rfl rdg rfl ?_; refine JL_dv 63 ?_
  refine JC_cutT ((List AT) × (List UInt8) × (List UInt8)) (fun (K, op, en) => K.Perm ks ∧ KO dd (er (.mk b n q ad cap ks)) (K.map er) op en) (fun u (K, op, en) => (rn 4 (some (.string (bs op)) :: some (.string (bs en)) :: rn 23 (sc u 29 16 [])))) (fun (K, op, en) => [some (osl ad24 ks.length c24 58 1 (ptrs K))]) (fun (K, op, en) => []) ?_ ?_
  ·refine JC_cond rfl (fun hb => ?_) (fun hb => ?_)
   ·have h28 := hb
    refine JC_sr ?_; refine JL_a ?_; refine JL_a ?_; refine JL_dv 63 ?_; refine JC_seq ?_; refine JC_drawT mixed 10 [spV 29 [] _, spV 30 [] _, spV 31 [1] _, spV 32 [2] _, spV 33 [0, 3] _, spV 34 [4] _, spC 35 [5] _, spV 36 [] _, spV 37 [7] _, spV 38 [8] _] ⟨oM, oM, OblS_V (fun vals ex ψ => (by refine JL_normQ _ (_ :: _ :: _ :: _ :: ψ) rfl rfl ?_; refine JL_len sl57 rfl ?_; exact vz rfl)), OblS_V (fun vals ex ψ => (by refine JL_sub_to rfl rfl i6o ?_; exact vz rfl)), OblS_V (fun vals ex ψ => (by refine JL_normQ _ (_ :: _ :: _ :: _ :: ψ) rfl rfl ?_; refine JL_idx (ks.length - 1) sl57 rfl rfl (by have := List.length_pos_iff.2 hks; omega) (by have := List.length_pos_iff.2 hks; omega) (Reads.own 0 rfl) (by rw [ptrs_length]; have := List.length_pos_iff.2 hks; omega) ?_; exact vz rfl)), OblS_V (fun vals ex ψ => (by refine JL_normQ _ (_ :: _ :: _ :: _ :: ψ) rfl rfl ?_; refine JL_loadE ty58 rfl (Reads.own 0 rfl) (ptrs_get (by have := List.length_pos_iff.2 hks; omega)) ?_; exact vz rfl)), OblS_C (fun vals ex ψ => (by refine JL_normQ ⟨63, [(29, _), (30, _), (31, _), (32, _), (33, _), (34, _), (35, _), (36, _), (37, _), (38, _)], _⟩ (_ :: _ :: _ :: _ :: ψ) rfl rfl ?_; refine JL_callF' (Asks.cons (by first | exact holds_of_mem am | (exact holds_of_own 0 rfl)) Asks.nil) (conF1 (least_con (ks.getD (ks.length - 1) default) (hf.kids _ (at_mem (by have := List.length_pos_iff.2 hks; omega)))) (at_mem (by have := List.length_pos_iff.2 hks; omega))) rfl ca72 ⟨rfl, rfl⟩ ?_; exact fun v φo hP => JL_nil (JE_stepC φo rfl hP (fun p hp => mapB_l hp) (fun p hp => mapB_r (ss0 p hp))))), oM, OblS_V (fun vals ex ψ => (by
      refine JL_normQ _ (_ :: _ :: _ :: _ :: ψ) rfl rfl ?_; refine JL_idx 0 sl57 rfl rfl rfl (List.length_pos_iff.2 hks) (Reads.own 0 rfl) (by rw [ptrs_length]; exact List.length_pos_iff.2 hks) ?_; exact vz rfl)), OblS_V (fun vals ex ψ => (by refine JL_normQ _ (_ :: _ :: _ :: _ :: ψ) rfl rfl ?_; refine JL_loadE ty58 rfl (Reads.own 0 rfl) (ptrs_get (List.length_pos_iff.2 hks)) ?_; exact vz rfl)), trivial⟩ kr (fun vals bs => ?_)
    refine JL_normL [_, _] ⟨63, [(29, _), (30, _), (31, _), (32, _), (33, _), (34, _), (35, _), (36, _), (37, _), (38, _)], _⟩ [osl _ _ _ _ _ _] [_, _, _, _, _] rfl rfl rfl rfl ?_; generalize vals (0 + 1 + 1 + 1 + 1 + 1 + 1) = x35; refine JL_usePost mm0 (fun φo hP => ?_); obtain ⟨rfl, rfl⟩ := hP; refine JL_norm _ [osl _ _ _ _ _ _] [_, _, _, _, _] rfl rfl rfl ?_; refine JL_callF' (Asks.cons (by first | exact holds_of_mem am | (exact holds_of_own 0 rfl)) Asks.nil) (conF1 (least_con (ks.getD 0 default) (hf.kids _ (at_mem (List.length_pos_iff.2 hks)))) (at_mem (List.length_pos_iff.2 hks))) rfl ca72 ⟨rfl, rfl⟩ ?_; rintro _ _ ⟨rfl, rfl⟩; refine JL_lss rfl rfl ?_; refine JL_split (fun h40 => ?_) (fun h40 => ?_)
    ·refine JL_du 63 [osl _ _ _ _ _ _] [_, _, _, _, _] ?_; refine JC_true rfl ?_; refine JC_region ?_; refine JL_m ?_; refine JL_callOL (σ1 := []) (nrv_con hln) rfl ca73 ⟨rfl, rfl⟩ ?_; rintro _ _ _ ⟨rfl, rfl, rfl⟩; refine JL_norm _ [osl _ _ _ _ _ _] [_, _, _, _, _] rfl rfl rfl ?_; rw [show ks.length = ks.length from rfl]; refine JL_nu 63 [osl _ _ _ _ _ _] [_, _, _, _, _] ?_; refine JE_midS (ks.reverse, [91], [93]) kr ?_ kr ?_
     · exact ⟨List.reverse_perm _, by have h := KO.line (d := dd) (ks := ks.map er) (by simpa using hks); rw [lst_last hks, lst_head hks, if_pos om] at h; rw [er_nd hks, show q = true from h28, List.map_reverse]; exact h⟩
     · exact subset_app subset_nil (ssS ss0)
    ·refine JL_du 63 [osl _ _ _ _ _ _] [_, _, _, _, _] ?_; refine JC_false rfl ?_; refine JC_skip ?_; refine JE_midS (ks, [91], [93]) kr ?_ kr ?_
     · exact ⟨.refl _, by have h := KO.line (d := dd) (ks := ks.map er) (by simpa using hks); rw [lst_last hks, lst_head hks, if_neg om] at h; rw [er_nd hks, show q = true from h28]; exact h⟩
     · exact subset_app subset_nil (ssS ss0)
   ·have h28 := hb
    refine JC_region ?_; refine JL_m ?_; refine JL_callO (AsksO.cons am AsksO.nil) (sortN_con hks hln hf.kids (fun k hk => by have := lst_lt (hf.kids k hk).ok (lt_kid hx k hk); omega)) rfl ca74 ⟨rfl, rfl, rfl⟩ ?_; rintro _ _ _ ⟨rfl, rfl, d44, hp44, hs44, rfl⟩; refine JL_nu 63 [osl _ _ _ _ _ _] [_, _, _, _] ?_; refine JE_midS (d44, [40], [41]) kr ?_ kr ?_
    · exact ⟨hp44, by rw [er_nd hks, lvs_nd] at hn; rw [er_nd hks, show q = false from h28]; exact KO.any (fun k hk => by obtain ⟨y, hy, rfl⟩ := List.mem_map.1 hk; exact (hf.kids y hy).ok) hn (hp44.map er) (fun i j hij hj => by rw [List.length_map] at hj; rw [getD_er _ om, getD_er _ hj]; exact hs44 i j hij hj)⟩
    · exact subset_app subset_nil ss0
  intro u i hC; obtain ⟨K, op, en⟩ := i; obtain ⟨hKp, hKO⟩ := hC; refine JC_nm 63 [osl _ _ _ _ _ _] [_, _, _, _] ?_; refine JC_seq ?_
  have hKl := hKp.length_eq
  have hKm : ∀ k ∈ K, k ∈ ks := fun k hk => hKp.mem_iff.1 hk
  rw [← hKl]; refine JC_region ?_; refine JL_a ?_; refine JL_dv 63 ?_; refine JC_seq ?_; refine JC_sr ?_; refine JL_m ?_; refine JL_len sl57 rfl ?_; refine JL_m ?_; refine JL_dv 63 ?_; refine JC_block ?_; refine JC_addNil 9 1 ?_; refine JC_nw [osl _ _ _ _ _ _, osl _ _ _ _ _ _] [_, _, _, _] ?_; refine JC_loopS ((Nat) × (List (List UInt8)) × (Option Addr) × (Nat)) (fun (i, xs, ad3, c3) => i ≤ K.length ∧ (K.take i).map tx = xs ∧ xs.length = i ∧ xs.length ≤ c3) (fun (i, xs, ad3, c3) => K.length - i) (fun u (i, xs, ad3, c3) => (rn 6 (some (.slice ad3 xs.length c3) :: none :: some (u 8) :: rn 38 (some (.int .i64 (i : Nat)) :: sc u 48 9 [])))) (fun (i, xs, ad3, c3) => (none :: [some (osl ad3 xs.length c3 9 1 (strs xs))])) (fun (i, xs, ad3, c3) => []) (0, [], none, 0) kr ?_ kr ?_ ?_
  · exact ⟨Nat.zero_le _, rfl, rfl, Nat.le_refl _⟩
  · exact subset_nil
  intro u i hC; obtain ⟨i, xs, ad3, c3⟩ := i; obtain ⟨hi, hxs, hxl, hc3⟩ := hC; refine JC_nm 63 [osl _ _ _ _ _ _, osl _ _ _ _ _ _] [_, _, _, _] ?_; refine JC_sr ?_; refine JL_lss rfl rfl ?_; refine JL_split (fun h48 => ?_) (fun h48 => ?_)
  ·refine JL_dv 63 ?_; refine JC_seq ?_; refine JC_true rfl ?_; refine JC_skip ?_; refine JE_then ?_; refine JC_seq ?_; refine JC_block ?_; refine JC_sr ?_; refine JL_idx i sl57 rfl rfl rfl om (Reads.own 0 rfl) (by rw [ptrs_length]; omega) ?_; refine JL_loadE ty58 rfl (Reads.own 0 rfl) (ptrs_get om) ?_; refine JL_a ?_; refine JL_dv 63 ?_; refine JC_region ?_; refine JL_m ?_; refine JL_m ?_; refine JL_callA' true (AsksA.cons (holdsA_of_mem am) AsksA.nil) (conA1 (IH (K.getD i default) (hKm _ (at_mem (l := K) (i := i) om))) (hKm _ (at_mem (l := K) (i := i) om))) rfl ca41 ⟨rfl, rfl⟩ ?_; rintro _ _ ⟨rfl, rfl⟩; refine JL_build1 sl111 rfl rfl (fun g54 => ?_); refine JL_append (news := strs [tx (K.getD i default)]) 1 sl111 rfl (by decide) rfl rfl rfl (by rw [strs_length]; rfl) (Reads.own 2 rfl) (strs_one _) om om (fun ad55 cap55 hc55 => ?_); refine JL_dropAt 2 ?_; refine JL_norm _ [osl _ _ _ _ _ _, osl _ _ _ _ _ _] [_, _, _, _] rfl rfl rfl ?_; rw [strs_app, show xs.length + 1 = (xs ++ [tx (K.getD i default)]).length from (by rw [List.length_append]; rfl)]; refine JL_a ?_
   refine JL_nu 63 [osl _ _ _ _ _ _, osl _ _ _ _ _ _] [_, _, _, _] ?_; refine JE_block_normal ?_; refine JE_then ?_; refine JC_region ?_; refine JL_add_to rfl rfl i6o ?_; refine JL_m ?_; refine JL_nv 63 ?_; refine JE_nextS (i + 1, xs ++ [tx (K.getD i default)], ad55, cap55) kr ?_ ?_ kr ?_
   · exact ⟨by omega, by rw [takeA_succ om, List.map_append, hxs]; rfl, by rw [List.length_append, hxl]; rfl, by rw [List.length_append]; exact hc55.1⟩
   · first | omega | (dsimp only; omega)
   · exact subset_app subset_nil ss0
  ·refine JL_dv 63 ?_; refine JC_seq ?_; refine JC_false rfl ?_; refine JC_exit ?_; refine JE_then_exit ?_; refine JE_nextS_exit ?_; refine JE_block_exit ?_; refine JE_then ?_; refine JC_seq ?_
   have hiK : i = K.length := by omega
   rw [hiK, some_all] at hxs
   have hxs2 : (K.map er).map (textT dd) = xs := by rw [List.map_map]; exact hxs
   have hx0 : xs ≠ [] := fun e => hks (List.eq_nil_of_length_eq_zero (by rw [e] at hxl; simp at hxl; omega))
   have hkt : tx (.mk b n q ad cap ks) = op ++ jn [32] xs ++ en := by rw [← hxs2]; exact hKO
   have hkl : (tx (.mk b n q ad cap ks)).length = op.length + (jn [32] xs).length + en.length := by rw [hkt, List.length_append, List.length_append]
   have hlen2 : (tx (.mk b n q ad cap ks)).length + 3 ≤ 5 * 1000 := Nat.le_trans hlen (Nat.mul_le_mul_left _ hL)
   refine JC_region ?_; refine JL_m ?_; refine JL_m ?_; refine JL_callF' (Asks.cons (by first | exact holds_of_mem am | (exact holds_of_own 0 rfl) | (exact holds_of_own 1 rfl)) Asks.nil) (joinS_con (sep := [32]) hx0 hc3 om om) rfl ca76 ⟨rfl, rfl, rfl⟩ ?_; rintro _ _ ⟨rfl, rfl⟩; refine JL_addS rfl rfl (by rw [bs_size, bs_size]; omega) ?_; rw [bs_app]; refine JL_m ?_; refine JL_addS rfl rfl (by rw [bs_size, bs_size, List.length_append]; omega) ?_; rw [bs_app]; refine JL_a ?_; refine JL_du 63 [osl _ _ _ _ _ _, osl _ _ _ _ _ _] [_, _, _, _] ?_; refine JC_ret ?_; refine JE_ret (vs := [_]) [] Tryz.results41 ⟨rfl, rfl⟩ ?_ ?_
   · exact ⟨by rw [hkt]; rfl, rfl⟩
   · exact all_nil

theorem text_con (t : AT) : Fit t → (lvs (er t)).Nodup → (∀ x ∈ lvs (er t), x < 100) → (lvs (er t)).length ≤ 1000 → ConA Tryz.prog 41 [ptr t] [vA t] (fun v φo => v = .string (bs (tx (t))) ∧ φo = []) := by
  induction t using AT.ind with
  | h b n q ad cap ks ih => exact fun hf hn hx hL => text_con0 hf hn hx hL fun k hk => ih k hk (hf.kids k hk) (nodup_kid hn k hk) (lt_kid hx k hk) (by
      have h1 : ks ≠ [] := fun e => by rw [e] at hk; cases hk
      rw [nA_nd h1] at hL
      have := nA_mem hk
      omega)

end Go.Fw.K
