/- Walks through functions of the given program: each meets its contract. (Printed by a program of this repo.) -/
import Derived.Test.YtjkbamfcoiikmaaGreatDoorM15
import Derived.Test.YtjkbamfcoiikmaaGreatDoorPqO
import Derived.Test.YtjkbamfcoiikmaaGreatDoorW
import Derived.Test.YtjkbamfcoiikmaaGreatDoorPqU
import Derived.Test.YtjkbamfcoiikmaaGreatDoorProg
namespace Go.Fw.MD
open Go Go.RowKit Go.Proofs Go.Nat9 Go.Fw
attribute [local irreducible] JC JL JE
theorem ca113 : callable Tryz.prog 113 = true := by kernel_rfl
theorem ca28 : callable Tryz.prog 28 = true := by kernel_rfl
theorem ca43 : callable Tryz.prog 43 = true := by kernel_rfl
theorem ca45 : callable Tryz.prog 45 = true := by kernel_rfl
theorem ca80 : callable Tryz.prog 80 = true := by kernel_rfl
theorem ca83 : callable Tryz.prog 83 = true := by kernel_rfl
theorem ca85 : callable Tryz.prog 85 = true := by kernel_rfl
theorem ca86 : callable Tryz.prog 86 = true := by kernel_rfl
theorem fo60_0 : fOf Tryz.prog 60 0 = some 0 := by kernel_rfl
theorem fo60_1 : fOf Tryz.prog 60 1 = some 1 := by kernel_rfl
theorem fo60_2 : fOf Tryz.prog 60 2 = some 2 := by kernel_rfl
theorem it43 : intTy Tryz.prog 43 = some .u64 := by kernel_rfl
theorem mixed : Tryz.prog.follows .mixedOrders = true := by kernel_rfl
theorem sl22 : slOf Tryz.prog 22 = some (32, 1, 24, [.slice none 0 0]) := by kernel_rfl
theorem sl32 : slOf Tryz.prog 32 = some (3, 1, 8, [.int .i64 0]) := by kernel_rfl
theorem sl57 : slOf Tryz.prog 57 = some (58, 1, 8, [.pointer none]) := by kernel_rfl
theorem ty3 : tyOf Tryz.prog 3 = some (false, 1) := by kernel_rfl
theorem ty32 : tyOf Tryz.prog 32 = some (false, 1) := by kernel_rfl
theorem ty39 : tyOf Tryz.prog 39 = some (true, 1) := by kernel_rfl
theorem ty4 : tyOf Tryz.prog 4 = some (false, 1) := by kernel_rfl
theorem ty57 : tyOf Tryz.prog 57 = some (false, 1) := by kernel_rfl
theorem ty58 : tyOf Tryz.prog 58 = some (false, 1) := by kernel_rfl
theorem ui3 : Tryz.prog.underlying 3 = some (.int .i64) := by kernel_rfl
theorem us3 : (Tryz.prog.underlying 3).isSome = true := by kernel_rfl
theorem z39 : zeroOf Tryz.prog 39 = some [.slice none 0 0] := by kernel_rfl
end Go.Fw.MD
namespace Go.Fw.K
open Go Go.RowKit Go.Proofs Go.Nat9 Go.Fw Go.Fw.MD
attribute [local irreducible] JC JL JE

open Go.Fw.Pq
set_option maxHeartbeats 2000000 in
theorem count_con0 {b n : Nat} {q : Bool} {ad : Option Addr} {cap : Nat} {ks : List AT} (hf : Fit (.mk b n q ad cap ks)) (hL : (lvs (er (.mk b n q ad cap ks))).length ≤ 1000)
    (IH : ∀ k ∈ ks, ConF Tryz.prog 43 [ptr k] [vA k] (LN (cntT (er k)))) :
    ConF Tryz.prog 43 [nptr b] [vA (.mk b n q ad cap ks)]
      (LN (cntT (er (.mk b n q ad cap ks)))) := by
 have hnA : nA ks ≤ 1000 := by
   by_cases c : ks = []
   · rw [c]; exact Nat.zero_le _
   · rw [← nA_nd c]; exact hL
 refine ConF_of Tryz.func43 rfl 41 (_ :: rp 40) rfl rfl ?_; intro w0; refine JC_st [] [_] ?_; refine JC_sr ?_; refine JL_alloc z39 (fun b2 => ?_); refine JL_du 41 [box _ _ [_]] [_] ?_; refine JC_sr ?_; refine JL_callF' Asks.nil (nat_of_con 1 om) rfl ca28 ⟨rfl, rfl⟩ ?_; rintro _ _ ⟨ad6, cap6, rfl, hk6, hm6, rfl⟩; refine JL_alloc z39 (fun b3 => ?_); refine JL_store (vs := [_]) 1 ty39 rfl rfl rfl ao1 rfl bleq ?_; refine JL_du 41 [box _ _ [_], box _ _ [_]] [_, _] ?_; refine JC_seq ?_; refine JC_seq ?_
 have hcp := hf.cap
 have hln := hf.len
 refine JC_atOpen (f := false) (b := b) (n := n) (q := q) (ad := ad) (cap := cap) (ks := ks) am ?_; refine JC_region ?_; refine JL_m ?_; refine JL_nilCheckE rfl ?_; refine JL_fieldAddrE fo60_2 rfl rdg (show 0 < (ncells n q ad ks.length cap).length from Nat.zero_lt_succ _) ?_; refine JL_loadE ty57 rfl rdg rfl ?_; refine JL_len sl57 rfl ?_; refine JL_m ?_; refine JL_dv 41 ?_; refine JC_block ?_; refine JC_loopS ((Nat) × (Nat) × (Option Addr) × (Nat)) (fun (i, o, ad3, c3) => i ≤ ks.length ∧ CI q ks i o ∧ ((limbsOf o).length ≤ c3 ∧ c3 ≤ 9223372036854775807)) (fun (i, o, ad3, c3) => ks.length - i) (fun u (i, o, ad3, c3) => (rn 4 (sc u 4 2 (rn 6 (some (.int .i64 (i : Nat)) :: sc u 13 20 []))))) (fun (i, o, ad3, c3) => (none :: [some (box b3 39 [.slice ad3 (limbsOf o).length c3])])) (fun (i, o, ad3, c3) => [(true, vCells ad3 (u32s (limbsOf o)))]) (0, 1, ad6, cap6) kr ?_ kr ?_ ?_
 · exact ⟨Nat.zero_le _, CI.zero q ks, hk6, hm6⟩
 · exact (subset_cons am subset_nil)
 intro u i hC; obtain ⟨i, o, ad3, c3⟩ := i; obtain ⟨hi, hO, hc3⟩ := hC; refine JC_nm 41 [box _ _ [_], box _ _ [_]] [_, _, _, _, _, _] ?_
 have hob := hO.le hnA hf.kids
 refine JC_sr ?_; refine JL_lss rfl rfl ?_; refine JL_split (fun h13 => ?_) (fun h13 => ?_)
 ·refine JL_dv 41 ?_; refine JC_seq ?_; refine JC_true rfl ?_; refine JC_skip ?_; refine JE_then ?_; refine JC_seq ?_; refine JC_block ?_; refine JC_sr ?_; refine JL_m ?_; refine JL_idx i sl57 rfl rfl rfl om rdg (by rw [ptrs_length]; omega) ?_; refine JL_loadE ty58 rfl rdg (ptrs_get om) ?_; refine JL_a ?_; refine JL_a ?_; refine JL_dv 41 ?_; refine JC_seq ?_; refine JC_drawT mixed 3 [spV 17 [] _, spV 18 [] _, spC 19 [1] _] ⟨OblS_V (fun vals ex ψ => (by refine JL_normQ _ (_ :: _ :: _ :: _ :: _ :: _ :: ψ) rfl rfl ?_; refine JL_loadA (vs := [_]) 1 ty39 rfl rfl ⟨rfl, trivial⟩ ?_; exact vz rfl)), oM, OblS_C (fun vals ex ψ => (by refine JL_normQ ⟨41, [(17, _), (18, _), (19, _)], _⟩ (_ :: _ :: _ :: _ :: _ :: _ :: ψ) rfl rfl ?_; refine JL_callF' (Asks.cons (holds_of_mem am) Asks.nil) (conF1 (IH (ks.getD i default) (at_mem (i := i) om)) (at_mem (i := i) om)) rfl ca43 ⟨rfl, rfl⟩ ?_; exact fun v φo hP => JL_nil (JE_stepC φo rfl hP (fun p hp => mapB_l hp) (fun p hp => mapB_r (ss0 p hp))))), trivial⟩ kr (fun vals bs => ?_)
  refine JL_normL [_, _] ⟨41, [(17, _), (18, _), (19, _)], _⟩ [box _ _ [_], box _ _ [_]] [_, _, _, _, _, _, _] rfl rfl rfl rfl ?_; generalize vals (0 + 1 + 1) = x19; refine JL_usePost mm0 (fun φo hP => ?_); obtain ⟨ad19, cap19, rfl, hk19, hm19, rfl⟩ := hP; refine JL_norm _ [box _ _ [_], box _ _ [_]] [_, _, _, _, _, _, _, _] rfl rfl rfl ?_
  have hcl := cnt_limbs (hf.kids _ (at_mem (i := i) om)).ok (by have := nA_mem (at_mem (l := ks) (i := i) om); omega)
  have hcm := nA_mem (at_mem (l := ks) (i := i) om)
  refine JL_callF' (Asks.cons (holds_of_mem am) (Asks.cons (holds_of_mem am) Asks.nil)) (nat_mul_con _ _ _ (limbsOf (o)) (o) (NIn.of om) _ _ _ (limbsOf (cntT (er (ks.getD i default)))) (cntT (er (ks.getD i default))) (NIn.of om)) rfl ca80 ⟨rfl, rfl, rfl⟩ ?_; rintro _ _ ⟨ad20, cap20, rfl, hk20, hm20, rfl⟩; refine JL_store (vs := [_]) 1 ty39 rfl rfl rfl ao1 rfl bleq ?_; refine JL_du 41 [box _ _ [_], box _ _ [_]] [_, _, _, _, _, _, _, _, _] ?_; refine JC_sr ?_; refine JL_m ?_; refine JL_nilCheckE rfl ?_; refine JL_fieldAddrE fo60_1 rfl rdg (show 0 < (ncells n q ad ks.length cap).length from Nat.zero_lt_succ _) ?_; refine JL_loadE ty4 rfl rdg rfl ?_; refine JL_not rfl ?_; refine JL_dv 41 ?_; refine JC_cond rfl (fun hb => ?_) (fun hb => ?_)
  ·have h25 := hb
   refine JC_drawT mixed 5 [spV 26 [] _, spV 27 [] _, spV 28 [1] _, spV 29 [2] _, spC 30 [3] _] ⟨OblS_V (fun vals ex ψ => (by refine JL_normQ _ (_ :: _ :: _ :: _ :: _ :: _ :: _ :: _ :: _ :: ψ) rfl rfl ?_; refine JL_loadA (vs := [_]) 1 ty39 rfl rfl ⟨rfl, trivial⟩ ?_; exact vz rfl)), oM, OblS_V (fun vals ex ψ => (by refine JL_normQ _ (_ :: _ :: _ :: _ :: _ :: _ :: _ :: _ :: _ :: ψ) rfl rfl ?_; refine JL_convInt us3 it43 rfl (u64_nat _ om) ?_; exact vz rfl)), OblS_V (fun vals ex ψ => (by refine JL_add_to rfl rfl (u64_nat (i + 1) om) ?_; exact vz rfl)), OblS_C (fun vals ex ψ => (by refine JL_normQ ⟨41, [(26, _), (27, _), (28, _), (29, _), (30, _)], _⟩ (_ :: _ :: _ :: _ :: _ :: _ :: _ :: _ :: _ :: ψ) rfl rfl ?_; refine JL_callF' Asks.nil (nat_of_con (i + 1) om) rfl ca28 ⟨rfl, rfl⟩ ?_; exact fun v φo hP => JL_nil (JE_stepC φo rfl hP (fun p hp => mapB_l hp) (fun p hp => mapB_r (ss0 p hp))))), trivial⟩ kr (fun vals bs => ?_)
   refine JL_normL [_, _] ⟨41, [(26, _), (27, _), (28, _), (29, _), (30, _)], _⟩ [box _ _ [_], box _ _ [_]] [_, _, _, _, _, _, _, _, _, _] rfl rfl rfl rfl ?_; generalize vals (0 + 1 + 1 + 1 + 1) = x30; refine JL_usePost mm0 (fun φo hP => ?_); obtain ⟨ad30, cap30, rfl, hk30, hm30, rfl⟩ := hP; refine JL_norm _ [box _ _ [_], box _ _ [_]] [_, _, _, _, _, _, _, _, _, _, _] rfl rfl rfl ?_
   have hmu := len_limbsOf_mul o (cntT (er (ks.getD i default)))
   have hcl := cnt_limbs (hf.kids _ (at_mem (i := i) om)).ok (by have := nA_mem (at_mem (l := ks) (i := i) om); omega)
   have hcm := nA_mem (at_mem (l := ks) (i := i) om)
   have hl1 := limbs_small (n := i + 1) om
   refine JL_callF' (Asks.cons (holds_of_mem am) (Asks.cons (holds_of_mem am) Asks.nil)) (nat_mul_con _ _ _ (limbsOf (o * cntT (er (ks.getD i default)))) (o * cntT (er (ks.getD i default))) (NIn.of om) _ _ _ (limbsOf (i + 1)) (i + 1) (NIn.of om)) rfl ca80 ⟨rfl, rfl, rfl⟩ ?_; rintro _ _ ⟨ad31, cap31, rfl, hk31, hm31, rfl⟩; refine JL_store (vs := [_]) 1 ty39 rfl rfl rfl ao1 rfl bleq ?_; refine JL_nu 41 [box _ _ [_], box _ _ [_]] [_, _, _, _, _, _, _, _, _, _, _, _] ?_; refine JE_block_normal ?_; refine JE_then ?_; refine JC_region ?_; refine JL_add_to rfl rfl i6o ?_; refine JL_m ?_; refine JL_nv 41 ?_; refine JE_nextS (i + 1, o * cntT (er (ks.getD i default)) * (i + 1), ad31, cap31) kr ?_ ?_ kr ?_
   · exact ⟨by omega, by have := hO.step (i := i) om; rw [if_neg (by rw [show q = false from by cases q with | false => rfl | true => exact absurd h25 (by decide)]; exact Bool.false_ne_true)] at this; exact this, hk31, hm31⟩
   · first | omega | (dsimp only; omega)
   · exact subset_app (subset_cons am subset_nil) (ssS (ssS (ssS (ssS (ssS (ssS (ssS ss0)))))))
  ·have h25 := hb
   refine JC_skip ?_; refine JE_block_normal ?_; refine JE_then ?_; refine JC_region ?_; refine JL_add_to rfl rfl i6o ?_; refine JL_m ?_; refine JL_nv 41 ?_; refine JE_nextS (i + 1, o * cntT (er (ks.getD i default)), ad20, cap20) kr ?_ ?_ kr ?_
   · exact ⟨by omega, by have := hO.step (i := i) om; rw [if_pos (show q = true from by cases q with | true => rfl | false => exact absurd h25 (by decide)), Nat.mul_one] at this; exact this, hk20, hm20⟩
   · first | omega | (dsimp only; omega)
   · exact subset_app (subset_cons am subset_nil) (ssS (ssS (ssS (ssS ss0))))
 ·refine JL_dv 41 ?_; refine JC_seq ?_; refine JC_false rfl ?_; refine JC_exit ?_; refine JE_then_exit ?_; refine JE_nextS_exit ?_; refine JE_block_exit ?_; refine JE_then ?_; refine JC_seq ?_; refine JC_seq ?_
  have hiK : i = ks.length := by omega
  have hoE := hO.eq
  rw [hiK, some_all] at hoE; refine JC_region ?_; refine JL_m ?_; refine JL_nilCheckE rfl ?_; refine JL_fieldAddrE fo60_1 rfl rdg (show 0 < (ncells n q ad ks.length cap).length from Nat.zero_lt_succ _) ?_; refine JL_loadE ty4 rfl rdg rfl ?_; refine JL_dv 41 ?_; refine JC_cond rfl (fun hb => ?_) (fun hb => ?_)
  ·have h36 := hb
   refine JC_drawT mixed 2 [spV 37 [] _, spC 38 [] _] ⟨OblS_V (fun vals ex ψ => (by refine JL_normQ _ (_ :: _ :: _ :: _ :: _ :: _ :: ψ) rfl rfl ?_; refine JL_loadA (vs := [_]) 1 ty39 rfl rfl ⟨rfl, trivial⟩ ?_; exact vz rfl)), OblS_C (fun vals ex ψ => (by refine JL_normQ ⟨41, [(37, _), (38, _)], _⟩ (_ :: _ :: _ :: _ :: _ :: _ :: ψ) rfl rfl ?_; refine JL_callF' Asks.nil (nat_of_con 2 om) rfl ca28 ⟨rfl, rfl⟩ ?_; exact fun v φo hP => JL_nil (JE_stepC φo rfl hP (fun p hp => mapB_l hp) (fun p hp => mapB_r (ss0 p hp))))), trivial⟩ kr (fun vals bs => ?_)
   refine JL_normL [_, _] ⟨41, [(37, _), (38, _)], _⟩ [box _ _ [_], box _ _ [_]] [_, _, _, _, _, _, _] rfl rfl rfl rfl ?_; generalize vals (0 + 1) = x38; refine JL_usePost mm0 (fun φo hP => ?_); obtain ⟨ad38, cap38, rfl, hk38, hm38, rfl⟩ := hP; refine JL_norm _ [box _ _ [_], box _ _ [_]] [_, _, _, _, _, _, _, _] rfl rfl rfl ?_
   have hl2 := limbs_small (n := 2) om
   refine JL_callF' (Asks.cons (holds_of_mem am) (Asks.cons (holds_of_mem am) Asks.nil)) (nat_mul_con _ _ _ (limbsOf (o)) (o) (NIn.of om) _ _ _ (limbsOf (2)) (2) (NIn.of om)) rfl ca80 ⟨rfl, rfl, rfl⟩ ?_; rintro _ _ ⟨ad39, cap39, rfl, hk39, hm39, rfl⟩; refine JL_store (vs := [_]) 1 ty39 rfl rfl rfl ao1 rfl bleq ?_; refine JL_du 41 [box _ _ [_], box _ _ [_]] [_, _, _, _, _, _, _, _, _] ?_; refine JC_sr ?_; refine JL_loadA (vs := [_]) 1 ty39 rfl rfl ⟨rfl, trivial⟩ ?_; refine JL_store (vs := [_]) 0 ty39 rfl rfl rfl ao1 rfl bleq ?_; refine JL_du 41 [box _ _ [_], box _ _ [_]] [_, _, _, _, _, _, _, _, _] ?_; refine JC_ret ?_; refine JE_ret (vs := [_]) [vCells ad39 (u32s (limbsOf (o * 2)))] Tryz.results43 ⟨RV.cell (vs := [_]) 0 ty39 rfl rfl ⟨rfl, trivial⟩, rfl⟩ ?_ ?_
   · rw [cnt_mk_Q h36 hf hoE]; exact ⟨ad39, cap39, rfl, hk39, hm39, rfl⟩
   · exact (all_cons am all_nil)
  ·have h36 := hb
   refine JC_skip ?_; refine JE_then ?_; refine JC_sr ?_; refine JL_loadA (vs := [_]) 1 ty39 rfl rfl ⟨rfl, trivial⟩ ?_; refine JL_store (vs := [_]) 0 ty39 rfl rfl rfl ao1 rfl bleq ?_; refine JL_du 41 [box _ _ [_], box _ _ [_]] [_, _, _, _, _, _] ?_; refine JC_ret ?_; refine JE_ret (vs := [_]) [vCells ad3 (u32s (limbsOf o))] Tryz.results43 ⟨RV.cell (vs := [_]) 0 ty39 rfl rfl ⟨rfl, trivial⟩, rfl⟩ ?_ ?_
   · rw [cnt_mk_P h36 hf hoE]; exact ⟨ad3, c3, rfl, hc3.1, hc3.2, rfl⟩
   · exact (all_cons am all_nil)

theorem count_con (t : AT) : Fit t → (lvs (er t)).length ≤ 1000 → ConF Tryz.prog 43 [ptr t] [vA t] (LN (cntT (er t))) := by
  induction t using AT.ind with
  | h b n q ad cap ks ih => exact fun hf hL => count_con0 hf hL fun k hk => ih k hk (hf.kids k hk) (by
      have h1 : ks ≠ [] := fun e => by rw [e] at hk; cases hk
      rw [nA_nd h1] at hL
      have := nA_mem hk
      omega)

theorem growI_con {n : Nat} (hn : n ≤ 1000000) :
    ConO Tryz.prog 113 [.slice none 0 0, .int .i64 (n : Nat)] [] []
      (fun v rout φo => ∃ (ad : Option Addr) (c : Nat), v = .slice ad 0 c ∧ φo = [] ∧ rout = [osl ad 0 c 3 1 (i64s ([]))]) := by
 refine ConO_of Tryz.func113 rfl 27 (_ :: _ :: rp 25) rfl rfl ?_; intro w0 p0 p1; refine JC_st [] [_, _] ?_; refine JC_sr ?_; refine JL_a ?_; refine JL_dv 27 ?_; refine JC_seq ?_; refine JC_sr ?_; refine JL_m ?_; refine JL_lss rfl rfl ?_; refine JL_split (fun h6 => ?_) (fun h6 => ?_)
 · exact absurd h6 om
 ·refine JL_dv 27 ?_; refine JC_false rfl ?_; refine JC_skip ?_; refine JE_then ?_; refine JC_seq ?_; refine JC_sr ?_; refine JL_m ?_; refine JL_m ?_; refine JL_cap sl32 rfl ?_; refine JL_m ?_; refine JL_len sl32 rfl ?_; refine JL_sub_to rfl rfl i6o ?_; refine JL_sub_to rfl rfl i6o ?_; refine JL_a ?_; refine JL_dv 27 ?_; refine JC_sr ?_; refine JL_m ?_; refine JL_gtr rfl rfl ?_; refine JL_split (fun h16 => ?_) (fun h16 => ?_)
  ·refine JL_dv 27 ?_; refine JC_true rfl ?_; refine JC_region ?_; refine JL_m ?_; refine JL_m ?_; refine JL_cap sl32 rfl ?_; refine JL_sliceTo 0 sl32 rfl rfl rfl (Nat.le_refl _) ?_; refine JL_m ?_; refine JL_growNil n sl32 rfl ui3 rfl rfl rfl om (by decide) om om (fun g22 cap22 hc22 => ?_); refine JL_m ?_; refine JL_len sl32 rfl ?_; refine JL_sliceTo 0 sl32 rfl rfl rfl (Nat.zero_le _) ?_; refine JL_a ?_; refine JL_du 27 [osl _ _ _ _ _ _] [_, _] ?_; refine JC_sr ?_; refine JL_m ?_; refine JL_a ?_; refine JL_dv 27 ?_; refine JC_ret ?_; refine JE_retO (vs := [_]) [] Tryz.results113 ⟨rfl, rfl⟩ ?_ ?_ am am
   · exact ⟨some ⟨g22, 0, none⟩, cap22, rfl, rfl, rfl⟩
   · exact all_nil
  ·refine JL_dv 27 ?_; refine JC_false rfl ?_; refine JC_skip ?_; refine JE_then ?_; refine JC_sr ?_; refine JL_m ?_; refine JL_a ?_; refine JL_dv 27 ?_; refine JC_ret ?_; refine JE_addNil 3 1 ?_; refine JE_retO (vs := [_]) [] Tryz.results113 ⟨rfl, rfl⟩ ?_ ?_ am am
   · exact ⟨none, 0, rfl, rfl, rfl⟩
   · exact all_nil

set_option maxHeartbeats 1000000 in
theorem concatI_con {adw : Option Addr} {cw : Nat} {ps : List Rw} (hl : ps.length ≤ 1000) (hs : sm ps ≤ 1000) :
    ConA Tryz.prog 86 [.slice adw ps.length cw] [vCells adw (rws ps), vRws ps]
      (fun v φo => ∃ (ad3 : Option Addr) (c3 : Nat), v = .slice ad3 (ps.flatMap Rw.L).length c3 ∧ ((ps.flatMap Rw.L).length ≤ c3 ∧ c3 ≤ 9223372036854775807) ∧ φo = [vCells ad3 (i64s (ps.flatMap Rw.L))]) := by
 refine ConA_of Tryz.func86 rfl 36 (_ :: rp 35) rfl rfl ?_; intro w0; refine JC_st [] [_, _] ?_; refine JC_sr ?_; refine JL_a ?_; refine JL_dv 36 ?_; refine JC_sr ?_; refine JL_a ?_; refine JL_dv 36 ?_; refine JC_seq ?_; refine JC_sr ?_; refine JL_m ?_; refine JL_len sl22 rfl ?_; refine JL_m ?_; refine JL_dv 36 ?_; refine JC_block ?_; refine JC_loopS ((Nat)) (fun (k : Nat) => k ≤ ps.length) (fun (k : Nat) => ps.length - k) (fun u (k : Nat) => (rn 3 (some (.int .i64 (sm (ps.take k) : Nat)) :: none :: some (u 5) :: rn 5 (some (.int .i64 (k : Nat)) :: sc u 12 11 [])))) (fun (k : Nat) => []) (fun (k : Nat) => []) (0) kr ?_ kr ?_ ?_
 · exact Nat.zero_le _
 · exact subset_nil
 intro u k hk; refine JC_nm 36 [] [_, _] ?_
 have hsk := sm_le ps k
 refine JC_sr ?_; refine JL_lss rfl rfl ?_; refine JL_split (fun h12 => ?_) (fun h12 => ?_)
 ·refine JL_dv 36 ?_; refine JC_seq ?_; refine JC_true rfl ?_; refine JC_skip ?_; refine JE_then ?_; refine JC_seq ?_; refine JC_block ?_; refine JC_seq ?_
  have hst := sm_take (ps := ps) (k := k) om
  have hsk2 := sm_le ps (k + 1)
  refine JC_region ?_; refine JL_idx k sl22 rfl rfl rfl om rdg (by rw [rws_length]; omega) ?_; refine JL_loadE ty32 rfl rdg (rws_get om) ?_; refine JL_a ?_; refine JL_dv 36 ?_; refine JC_sr ?_; refine JL_m ?_; refine JL_m ?_; refine JL_len sl32 rfl ?_; refine JL_add_to rfl rfl i6o ?_; rw [show (((sm (ps.take k) : Nat) : Int) + ((ps.getD k dR).L.length : Nat) : Int) = ((sm (ps.take (k + 1)) : Nat) : Int) from by omega]; refine JL_a ?_; refine JL_dv 36 ?_; refine JC_sr ?_; refine JL_m ?_; refine JL_lss rfl rfl ?_; refine JL_split (fun h20 => ?_) (fun h20 => ?_)
  · exact absurd h20 om
  ·refine JL_dv 36 ?_; refine JC_false rfl ?_; refine JC_skip ?_; refine JE_block_normal ?_; refine JE_then ?_; refine JC_region ?_; refine JL_add_to rfl rfl i6o ?_; refine JL_m ?_; refine JL_nv 36 ?_; refine JE_nextS (k + 1) kr ?_ ?_ kr ?_
   · exact (by omega : k + 1 ≤ ps.length)
   · first | omega | (dsimp only; omega)
   · exact subset_app subset_nil ss0
 ·refine JL_dv 36 ?_; refine JC_seq ?_; refine JC_false rfl ?_; refine JC_exit ?_; refine JE_then_exit ?_; refine JE_nextS_exit ?_; refine JE_block_exit ?_; refine JE_then ?_; refine JC_seq ?_; obtain rfl : k = ps.length := by omega
  rw [List.take_of_length_le (Nat.le_refl _)]; refine JC_region ?_; refine JL_m ?_; refine JL_callO0 AsksO.nil (growI_con (n := sm ps) om) rfl ca113 ⟨rfl, rfl, rfl⟩ ?_; rintro _ _ _ ⟨ad24, c24, rfl, rfl, rfl⟩; refine JL_norm _ [osl _ _ _ _ _ _] [_, _] rfl rfl rfl ?_; refine JL_a ?_; refine JL_du 36 [osl _ _ _ _ _ _] [_, _] ?_; refine JC_seq ?_; refine JC_sr ?_; refine JL_m ?_; refine JL_len sl22 rfl ?_; refine JL_m ?_; refine JL_dv 36 ?_; refine JC_block ?_; refine JC_loopS ((Nat) × (List Int) × (Option Addr) × (Nat)) (fun (k, r, ad3, cap3) => k ≤ ps.length ∧ r = (ps.take k).flatMap Rw.L) (fun (k, r, ad3, cap3) => ps.length - k) (fun u (k, r, ad3, cap3) => (rn 6 (some (.slice ad3 r.length cap3) :: none :: some (u 8) :: rn 18 (some (.int .i64 (k : Nat)) :: sc u 28 7 [])))) (fun (k, r, ad3, cap3) => [some (osl ad3 r.length cap3 3 1 (i64s (r)))]) (fun (k, r, ad3, cap3) => []) (0, [], ad24, c24) kr ?_ kr ?_ ?_
  · exact ⟨Nat.zero_le _, by rw [List.take_zero]; rfl⟩
  · exact subset_nil
  intro u i hC; obtain ⟨k, r, ad3, cap3⟩ := i; obtain ⟨hk, hr⟩ := hC; refine JC_nm 36 [osl _ _ _ _ _ _] [_, _] ?_
  have hsk := sm_le ps k
  have hrl : r.length = sm (ps.take k) := by rw [hr]; rfl
  refine JC_sr ?_; refine JL_lss rfl rfl ?_; refine JL_split (fun h28 => ?_) (fun h28 => ?_)
  ·refine JL_dv 36 ?_; refine JC_seq ?_; refine JC_true rfl ?_; refine JC_skip ?_; refine JE_then ?_; refine JC_seq ?_; refine JC_block ?_; refine JC_seq ?_
   have hst := sm_take (ps := ps) (k := k) om
   have hsk2 := sm_le ps (k + 1)
   refine JC_rwGet (f := true) (ps.getD k dR) am (rw_mem om) ?_; refine JC_region ?_; refine JL_idx k sl22 rfl rfl rfl om rdg (by rw [rws_length]; omega) ?_; refine JL_loadE ty32 rfl rdg (rws_get om) ?_; refine JL_a ?_; refine JL_dv 36 ?_; refine JC_region ?_; refine JL_m ?_; refine JL_m ?_; refine JL_appendIV (L := r) (M := (ps.getD k dR).L) 0 sl32 rfl rfl rfl rdg (by first | rfl | assumption | (simp only [lenS]; omega)) om om (fun ad33 cap33 hc33 => ?_); rw [← List.length_append]; refine JL_a ?_; refine JL_nu 36 [osl _ _ _ _ _ _] [_, _, _] ?_; refine JE_block_normal ?_; refine JE_then ?_; refine JC_region ?_; refine JL_add_to rfl rfl i6o ?_; refine JL_m ?_; refine JL_nv 36 ?_; refine JE_nextS (k + 1, r ++ (ps.getD k dR).L, ad33, cap33) kr ?_ ?_ kr ?_
   · exact ⟨by omega, by rw [fm_take om, hr]⟩
   · first | omega | (dsimp only; omega)
   · exact subset_app subset_nil (ssS ss0)
  ·refine JL_dv 36 ?_; refine JC_seq ?_; refine JC_false rfl ?_; refine JC_exit ?_; refine JE_then_exit ?_; refine JE_nextS_exit ?_; refine JE_block_exit ?_; refine JE_then ?_; refine JC_seq ?_; obtain rfl : k = ps.length := by omega
   rw [List.take_of_length_le (Nat.le_refl _)] at hr; subst hr; refine JC_ownCap 0 rfl (fun hcap => ?_); refine JC_region ?_; refine JL_m ?_; refine JL_a ?_; refine JL_dv 36 ?_; refine JC_ret ?_; refine JE_give 0 rfl ?_; refine JE_norm _ [] [_, _, _] rfl rfl rfl ?_; refine JE_ret (vs := [_]) [vCells ad3 (i64s (ps.flatMap Rw.L))] Tryz.results86 ⟨rfl, rfl⟩ ?_ ?_
   · exact ⟨ad3, cap3, rfl, hcap, rfl⟩
   · exact (all_cons am all_nil)

set_option maxHeartbeats 1000000 in
theorem rrv_con {ad : Option Addr} {c : Nat} {ps : List Rw} (hl : ps.length ≤ 1000) :
    ConO Tryz.prog 85 [.slice ad ps.length c] [osl ad ps.length c 32 1 (rws ps)] []
      (fun v rout φo => v = retOf [] ∧ rout = [osl ad ps.length c 32 1 (rws ps.reverse)] ∧ φo = []) := by
 refine ConO_of Tryz.func85 rfl 28 (_ :: rp 27) rfl rfl ?_; intro w0 p0 p1; refine JC_st [osl _ _ _ _ _ _] [_, _] ?_; refine JC_sr ?_; refine JL_m ?_; refine JL_len sl22 rfl ?_; refine JL_sub_to rfl rfl i6o ?_; rw [show ((ps.length : Int) - 1 : Int) = (ps.length : Int) - 1 - ((0 : Nat) : Int) from by omega]; refine JL_a ?_; refine JL_a ?_; refine JL_dv 28 ?_; refine JC_block ?_; refine JC_loopS ((Nat) × (List Rw)) (fun (i, m) => 2 * i ≤ ps.length ∧ m.length = ps.length ∧ TRVr ps i m) (fun (i, m) => ps.length - i) (fun u (i, m) => (rn 2 (some (.int .i64 (i : Nat)) :: some (.int .i64 ((ps.length : Int) - 1 - (i : Nat))) :: rn 3 (sc u 7 21 [])))) (fun (i, m) => [some (osl ad ps.length c 32 1 (rws m))]) (fun (i, m) => []) (0, ps) kr ?_ kr ?_ ?_
 · exact ⟨by omega, rfl, TRVr.zero ps⟩
 · exact subset_nil
 intro u i hC; obtain ⟨i, m⟩ := i; obtain ⟨hi, hm, hv⟩ := hC; refine JC_nm 28 [osl _ _ _ _ _ _] [_, _] ?_; refine JC_seq ?_; refine JC_sr ?_; refine JL_m ?_; refine JL_m ?_; refine JL_lss rfl rfl ?_; refine JL_split (fun h9 => ?_) (fun h9 => ?_)
 ·refine JL_dv 28 ?_; refine JC_true rfl ?_; refine JC_skip ?_; refine JE_then ?_; refine JC_seq ?_; refine JC_block ?_; refine JC_drawX mixed 13 [2, 3] [([2, 3], 4), ([2], 3), ([3], 3), ([], 2)] [spV 14 [] _, spV 15 [] _, spV 16 [] _, spV 17 [] _, spV 18 [] _, spV 19 [] _, spV 20 [4, 5] _, spV 21 [6] _, spV 22 [] _, spV 23 [] _, spV 24 [8, 9] _, spV 25 [10] _, spV 26 [0, 1] _] ⟨oM, oM, oM, oM, oM, oM, OblS_V (fun vals ex ψ => (by refine JL_normQ _ (_ :: _ :: ψ) rfl rfl ?_; refine JL_idx (ps.length - 1 - i) sl22 rfl rfl om om (Reads.own 0 rfl) (by first | (rw [rws_length]; omega) | (rw [rws_length, List.length_set]; omega)) ?_; exact vz rfl)), OblS_V (fun vals ex ψ => (by refine JL_normQ _ (_ :: _ :: ψ) rfl rfl ?_; refine JL_loadE ty32 rfl (Reads.own 0 rfl) (rws_get om) ?_; exact vz rfl)), oM, oM, OblS_V (fun vals ex ψ => (by refine JL_normQ _ (_ :: _ :: ψ) rfl rfl ?_; refine JL_idx i sl22 rfl rfl rfl om (Reads.own 0 rfl) (by first | (rw [rws_length]; omega) | (rw [rws_length, List.length_set]; omega)) ?_; exact vz rfl)), OblS_V (fun vals ex ψ => (by refine JL_normQ _ (_ :: _ :: ψ) rfl rfl ?_; refine JL_loadE ty32 rfl (Reads.own 0 rfl) (rws_get om) ?_; exact vz rfl)), OblS_V (fun vals ex ψ => (by refine JL_normQ _ (_ :: _ :: ψ) rfl rfl ?_; refine JL_idx i sl22 rfl rfl rfl om (Reads.own 0 rfl) (by first | (rw [rws_length]; omega) | (rw [rws_length, List.length_set]; omega)) ?_; exact vz rfl)), trivial⟩ kr rfl rfl ⟨fun vals bs r => ?_, fun vals bs r => ?_, fun vals bs r => ?_, fun vals bs r => ?_, trivial⟩
  ·refine JL_normL [_] ⟨28, [(14, _), (15, _), (16, _), (17, _), (18, _), (19, _), (20, _), (21, _), (22, _), (23, _), (24, _), (25, _), (26, _)], _⟩ [osl _ _ _ _ _ _] [_, _, _, _] rfl rfl rfl rfl ?_; generalize vals (0 + 1 + 1) = x16; generalize vals (0 + 1 + 1 + 1) = x17; refine JL_storeE (vs := [_]) 0 ty32 zp rfl rfl rfl ao1 rfl (by rw [rws_length]; simp only [List.length_cons, List.length_nil]; omega) ?_; refine JL_norm _ [osl _ _ _ _ _ (setAll (rws m) i [(m.getD (ps.length - 1 - i) dR).v])] _ rfl rfl rfl ?_; rw [rws_set]; refine JL_nu 28 [osl _ _ _ _ _ _] [_, _, _, _] ?_; refine JE_nextA ?_; refine JA_step [2, 3] kr (by simp) ⟨⟨_, rfl, ?_⟩, ⟨_, rfl, ?_⟩, trivial⟩
   ·refine JL_m ?_; refine JL_nil ?_; refine JE_nA 3 ?_; refine JL_m ?_; refine JL_nil ?_; refine JE_nA 14 ?_; refine JL_idx (ps.length - 1 - i) sl22 rfl rfl om om (Reads.own 0 rfl) (by first | (rw [rws_length]; omega) | (rw [rws_length, List.length_set]; omega)) ?_; refine JL_nu 28 [osl _ _ _ _ _ _] [_, _, _, _] ?_; refine JE_nA 15 ?_; refine JL_storeE (vs := [_]) 0 ty32 zp rfl rfl rfl ao1 rfl (by rw [rws_length, List.length_set]; simp only [List.length_cons, List.length_nil]; omega) ?_; refine JL_norm _ [osl _ _ _ _ _ (setAll (rws (m.set i (m.getD (ps.length - 1 - i) dR))) (ps.length - 1 - i) [(m.getD i dR).v])] _ rfl rfl rfl ?_; rw [rws_set]; refine JL_nu 28 [osl _ _ _ _ _ _] [_, _, _, _] ?_; refine JE_nextA ?_; refine JA_end kr ?_; refine JE_block_normal ?_; refine JE_then ?_; refine JC_region ?_; refine JL_m ?_; refine JL_add_to rfl rfl i6o ?_
    refine JL_m ?_; refine JL_sub_to rfl rfl i6o ?_; rw [show ((ps.length : Int) - 1 - (i : Nat) - 1 : Int) = (ps.length : Int) - 1 - ((i + 1 : Nat) : Int) from by omega]; refine JL_a ?_; refine JL_a ?_; refine JL_nu 28 [osl _ _ _ _ _ _] [_, _, _, _] ?_; refine JE_nextS (i + 1, (m.set i (m.getD (ps.length - 1 - i) dR)).set (ps.length - 1 - i) (m.getD i dR)) kr ?_ ?_ kr ?_
    · exact ⟨by omega, by rw [List.length_set, List.length_set]; exact hm, hv.step hm om⟩
    · first | omega | (dsimp only; omega)
    · exact subset_app subset_nil (ssS (ssS ss0))
   ·refine JL_m ?_; refine JL_nil ?_; refine JE_nA 2 ?_; refine JL_m ?_; refine JL_nil ?_; refine JE_nA 14 ?_; refine JL_idx (ps.length - 1 - i) sl22 rfl rfl om om (Reads.own 0 rfl) (by first | (rw [rws_length]; omega) | (rw [rws_length, List.length_set]; omega)) ?_; refine JL_nu 28 [osl _ _ _ _ _ _] [_, _, _, _] ?_; refine JE_nA 15 ?_; refine JL_storeE (vs := [_]) 0 ty32 zp rfl rfl rfl ao1 rfl (by rw [rws_length, List.length_set]; simp only [List.length_cons, List.length_nil]; omega) ?_; refine JL_norm _ [osl _ _ _ _ _ (setAll (rws (m.set i (m.getD (ps.length - 1 - i) dR))) (ps.length - 1 - i) [(m.getD i dR).v])] _ rfl rfl rfl ?_; rw [rws_set]; refine JL_nu 28 [osl _ _ _ _ _ _] [_, _, _, _] ?_; refine JE_nextA ?_; refine JA_end kr ?_; refine JE_block_normal ?_; refine JE_then ?_; refine JC_region ?_; refine JL_m ?_; refine JL_add_to rfl rfl i6o ?_
    refine JL_m ?_; refine JL_sub_to rfl rfl i6o ?_; rw [show ((ps.length : Int) - 1 - (i : Nat) - 1 : Int) = (ps.length : Int) - 1 - ((i + 1 : Nat) : Int) from by omega]; refine JL_a ?_; refine JL_a ?_; refine JL_nu 28 [osl _ _ _ _ _ _] [_, _, _, _] ?_; refine JE_nextS (i + 1, (m.set i (m.getD (ps.length - 1 - i) dR)).set (ps.length - 1 - i) (m.getD i dR)) kr ?_ ?_ kr ?_
    · exact ⟨by omega, by rw [List.length_set, List.length_set]; exact hm, hv.step hm om⟩
    · first | omega | (dsimp only; omega)
    · exact subset_app subset_nil (ssS (ssS ss0))
  ·refine JL_normL [_] ⟨28, [(14, _), (15, _), (16, _), (17, _), (18, _), (19, _), (20, _), (21, _), (22, _), (23, _), (24, _), (25, _), (26, _)], _⟩ [osl _ _ _ _ _ _] [_, _, _] rfl rfl rfl rfl ?_; generalize vals (0 + 1 + 1) = x16; refine JL_storeE (vs := [_]) 0 ty32 zp rfl rfl rfl ao1 rfl (by rw [rws_length]; simp only [List.length_cons, List.length_nil]; omega) ?_; refine JL_norm _ [osl _ _ _ _ _ (setAll (rws m) i [(m.getD (ps.length - 1 - i) dR).v])] _ rfl rfl rfl ?_; rw [rws_set]; refine JL_nu 28 [osl _ _ _ _ _ _] [_, _, _] ?_; refine JE_nA 2 ?_; refine JL_m ?_; refine JL_nil ?_; refine JE_nA 14 ?_; refine JL_idx (ps.length - 1 - i) sl22 rfl rfl om om (Reads.own 0 rfl) (by first | (rw [rws_length]; omega) | (rw [rws_length, List.length_set]; omega)) ?_; refine JL_nu 28 [osl _ _ _ _ _ _] [_, _, _] ?_; refine JE_nA 15 ?_
   refine JL_storeE (vs := [_]) 0 ty32 zp rfl rfl rfl ao1 rfl (by rw [rws_length, List.length_set]; simp only [List.length_cons, List.length_nil]; omega) ?_; refine JL_norm _ [osl _ _ _ _ _ (setAll (rws (m.set i (m.getD (ps.length - 1 - i) dR))) (ps.length - 1 - i) [(m.getD i dR).v])] _ rfl rfl rfl ?_; rw [rws_set]; refine JL_nu 28 [osl _ _ _ _ _ _] [_, _, _] ?_; refine JE_nextA ?_; refine JA_end kr ?_; refine JE_block_normal ?_; refine JE_then ?_; refine JC_region ?_; refine JL_m ?_; refine JL_add_to rfl rfl i6o ?_; refine JL_m ?_; refine JL_sub_to rfl rfl i6o ?_; rw [show ((ps.length : Int) - 1 - (i : Nat) - 1 : Int) = (ps.length : Int) - 1 - ((i + 1 : Nat) : Int) from by omega]; refine JL_a ?_; refine JL_a ?_; refine JL_nu 28 [osl _ _ _ _ _ _] [_, _, _] ?_; refine JE_nextS (i + 1, (m.set i (m.getD (ps.length - 1 - i) dR)).set (ps.length - 1 - i) (m.getD i dR)) kr ?_ ?_ kr ?_
   · exact ⟨by omega, by rw [List.length_set, List.length_set]; exact hm, hv.step hm om⟩
   · first | omega | (dsimp only; omega)
   · exact subset_app subset_nil (ssS ss0)
  ·refine JL_normL [_] ⟨28, [(14, _), (15, _), (16, _), (17, _), (18, _), (19, _), (20, _), (21, _), (22, _), (23, _), (24, _), (25, _), (26, _)], _⟩ [osl _ _ _ _ _ _] [_, _, _] rfl rfl rfl rfl ?_; generalize vals (0 + 1 + 1 + 1) = x17; refine JL_storeE (vs := [_]) 0 ty32 zp rfl rfl rfl ao1 rfl (by rw [rws_length]; simp only [List.length_cons, List.length_nil]; omega) ?_; refine JL_norm _ [osl _ _ _ _ _ (setAll (rws m) i [(m.getD (ps.length - 1 - i) dR).v])] _ rfl rfl rfl ?_; rw [rws_set]; refine JL_nu 28 [osl _ _ _ _ _ _] [_, _, _] ?_; refine JE_nA 3 ?_; refine JL_m ?_; refine JL_nil ?_; refine JE_nA 14 ?_; refine JL_idx (ps.length - 1 - i) sl22 rfl rfl om om (Reads.own 0 rfl) (by first | (rw [rws_length]; omega) | (rw [rws_length, List.length_set]; omega)) ?_; refine JL_nu 28 [osl _ _ _ _ _ _] [_, _, _] ?_; refine JE_nA 15 ?_
   refine JL_storeE (vs := [_]) 0 ty32 zp rfl rfl rfl ao1 rfl (by rw [rws_length, List.length_set]; simp only [List.length_cons, List.length_nil]; omega) ?_; refine JL_norm _ [osl _ _ _ _ _ (setAll (rws (m.set i (m.getD (ps.length - 1 - i) dR))) (ps.length - 1 - i) [(m.getD i dR).v])] _ rfl rfl rfl ?_; rw [rws_set]; refine JL_nu 28 [osl _ _ _ _ _ _] [_, _, _] ?_; refine JE_nextA ?_; refine JA_end kr ?_; refine JE_block_normal ?_; refine JE_then ?_; refine JC_region ?_; refine JL_m ?_; refine JL_add_to rfl rfl i6o ?_; refine JL_m ?_; refine JL_sub_to rfl rfl i6o ?_; rw [show ((ps.length : Int) - 1 - (i : Nat) - 1 : Int) = (ps.length : Int) - 1 - ((i + 1 : Nat) : Int) from by omega]; refine JL_a ?_; refine JL_a ?_; refine JL_nu 28 [osl _ _ _ _ _ _] [_, _, _] ?_; refine JE_nextS (i + 1, (m.set i (m.getD (ps.length - 1 - i) dR)).set (ps.length - 1 - i) (m.getD i dR)) kr ?_ ?_ kr ?_
   · exact ⟨by omega, by rw [List.length_set, List.length_set]; exact hm, hv.step hm om⟩
   · first | omega | (dsimp only; omega)
   · exact subset_app subset_nil (ssS ss0)
  ·refine JL_normL [_] ⟨28, [(14, _), (15, _), (16, _), (17, _), (18, _), (19, _), (20, _), (21, _), (22, _), (23, _), (24, _), (25, _), (26, _)], _⟩ [osl _ _ _ _ _ _] [_, _] rfl rfl rfl rfl ?_; refine JL_storeE (vs := [_]) 0 ty32 zp rfl rfl rfl ao1 rfl (by rw [rws_length]; simp only [List.length_cons, List.length_nil]; omega) ?_; refine JL_norm _ [osl _ _ _ _ _ (setAll (rws m) i [(m.getD (ps.length - 1 - i) dR).v])] _ rfl rfl rfl ?_; rw [rws_set]; refine JL_nu 28 [osl _ _ _ _ _ _] [_, _] ?_; refine JE_nA 14 ?_; refine JL_idx (ps.length - 1 - i) sl22 rfl rfl om om (Reads.own 0 rfl) (by first | (rw [rws_length]; omega) | (rw [rws_length, List.length_set]; omega)) ?_; refine JL_nu 28 [osl _ _ _ _ _ _] [_, _] ?_; refine JE_nA 15 ?_; refine JL_storeE (vs := [_]) 0 ty32 zp rfl rfl rfl ao1 rfl (by rw [rws_length, List.length_set]; simp only [List.length_cons, List.length_nil]; omega) ?_
   refine JL_norm _ [osl _ _ _ _ _ (setAll (rws (m.set i (m.getD (ps.length - 1 - i) dR))) (ps.length - 1 - i) [(m.getD i dR).v])] _ rfl rfl rfl ?_; rw [rws_set]; refine JL_nu 28 [osl _ _ _ _ _ _] [_, _] ?_; refine JE_nextA ?_; refine JA_end kr ?_; refine JE_block_normal ?_; refine JE_then ?_; refine JC_region ?_; refine JL_m ?_; refine JL_add_to rfl rfl i6o ?_; refine JL_m ?_; refine JL_sub_to rfl rfl i6o ?_; rw [show ((ps.length : Int) - 1 - (i : Nat) - 1 : Int) = (ps.length : Int) - 1 - ((i + 1 : Nat) : Int) from by omega]; refine JL_a ?_; refine JL_a ?_; refine JL_nu 28 [osl _ _ _ _ _ _] [_, _] ?_; refine JE_nextS (i + 1, (m.set i (m.getD (ps.length - 1 - i) dR)).set (ps.length - 1 - i) (m.getD i dR)) kr ?_ ?_ kr ?_
   · exact ⟨by omega, by rw [List.length_set, List.length_set]; exact hm, hv.step hm om⟩
   · first | omega | (dsimp only; omega)
   · exact subset_app subset_nil ss0
 ·refine JL_dv 28 ?_; refine JC_false rfl ?_; refine JC_exit ?_; refine JE_then_exit ?_; refine JE_nextS_exit ?_; refine JE_block_exit ?_
  have hrv := hv.done hm om
  subst hrv; refine JE_endO (vs := []) [] Tryz.results85 rfl ?_ ?_ am am
  · exact ⟨rfl, rfl, rfl⟩
  · exact all_nil

set_option maxHeartbeats 2000000 in
theorem first_con0 {b n : Nat} {q : Bool} {ad : Option Addr} {cap : Nat} {ks : List AT} (hf : Fit (.mk b n q ad cap ks)) (hn : (lvs (er (.mk b n q ad cap ks))).Nodup) (hx : ∀ x ∈ lvs (er (.mk b n q ad cap ks)), x < 100) (hL : (lvs (er (.mk b n q ad cap ks))).length ≤ 1000)
    (IH : ∀ k ∈ ks, ConF Tryz.prog 45 [ptr k] [vA k] (fun v φo => ∃ (ad3 : Option Addr) (c3 : Nat), v = .slice ad3 (zs (fstT (er k))).length c3 ∧ ((zs (fstT (er k))).length ≤ c3 ∧ c3 ≤ 9223372036854775807) ∧ φo = [vCells ad3 (i64s (zs (fstT (er k))))])) :
    ConF Tryz.prog 45 [nptr b] [vA (.mk b n q ad cap ks)]
      (fun v φo => ∃ (ad3 : Option Addr) (c3 : Nat), v = .slice ad3 (zs (fstT (er (.mk b n q ad cap ks)))).length c3 ∧ ((zs (fstT (er (.mk b n q ad cap ks)))).length ≤ c3 ∧ c3 ≤ 9223372036854775807) ∧ φo = [vCells ad3 (i64s (zs (fstT (er (.mk b n q ad cap ks)))))]) := by
 refine ConF_of Tryz.func45 rfl 59 (_ :: rp 58) rfl rfl ?_; intro w0; refine JC_st [] [_] ?_; refine JC_sr ?_; refine JL_a ?_; refine JL_dv 59 ?_; refine JC_seq ?_; refine JC_seq ?_
 have hcp := hf.cap
 have hln := hf.len
 refine JC_atOpen (f := false) (b := b) (n := n) (q := q) (ad := ad) (cap := cap) (ks := ks) am ?_; refine JC_region ?_; refine JL_m ?_; refine JL_nilCheckE rfl ?_; refine JL_fieldAddrE fo60_2 rfl rdg (show 0 < (ncells n q ad ks.length cap).length from Nat.zero_lt_succ _) ?_; refine JL_loadE ty57 rfl rdg rfl ?_; refine JL_len sl57 rfl ?_; refine JL_eql rfl rfl ?_; refine JL_split (fun h11 => ?_) (fun h11 => ?_)
 ·have hks0 : ks = [] := List.eq_nil_of_length_eq_zero om
  refine JL_dv 59 ?_; refine JC_true rfl ?_; refine JC_sr ?_; refine JL_m ?_; refine JL_nilCheckE rfl ?_; refine JL_fieldAddrE fo60_0 rfl rdg (show 0 < (ncells n q ad ks.length cap).length from Nat.zero_lt_succ _) ?_; refine JL_loadE ty3 rfl rdg rfl ?_; refine JL_build1 sl32 rfl rfl (fun g16 => ?_); refine JL_norm _ [osl _ _ _ _ _ (i64s (zs [n]))] [_, _, _, _] rfl rfl rfl ?_; refine JL_a ?_; refine JL_du 59 [osl _ _ _ _ _ _] [_, _, _, _] ?_; refine JC_ret ?_; refine JE_then_ret ?_; refine JE_give 0 rfl ?_; refine JE_norm _ [] [_, _, _, _, _] rfl rfl rfl ?_; refine JE_ret (vs := [_]) [vCells (some ⟨g16, 0, none⟩) (i64s (zs [n]))] Tryz.results45 ⟨rfl, rfl⟩ ?_ ?_
  · subst hks0; exact ⟨some ⟨g16, 0, none⟩, 1, rfl, ⟨Nat.le_refl _, by omega⟩, rfl⟩
  · exact (all_cons am all_nil)
 ·have hks : ks ≠ [] := fun e => h11 (by rw [e]; rfl)
  have hkl := List.length_pos_iff.2 hks
  refine JL_dv 59 ?_; refine JC_false rfl ?_; refine JC_skip ?_; refine JE_then ?_; refine JC_sr ?_; refine JL_a ?_; refine JL_dv 59 ?_; refine JC_seq ?_; refine JC_sr ?_; refine JL_m ?_; refine JL_nilCheckE rfl ?_; refine JL_fieldAddrE fo60_2 rfl rdg (show 0 < (ncells n q ad ks.length cap).length from Nat.zero_lt_succ _) ?_; refine JL_loadE ty57 rfl rdg rfl ?_; refine JL_len sl57 rfl ?_; refine JL_m ?_; refine JL_dv 59 ?_; refine JC_block ?_; refine JC_rwNil ?_; refine JC_addNil 32 1 ?_; refine JC_nw [osl _ _ _ _ _ _] [_, _, _, _, _] ?_; refine JC_loopS ((Nat) × (List Rw) × (Option Addr) × (Nat)) (fun (i, P, ad3, c3) => i ≤ ks.length ∧ PI ks i P ∧ P.length = i) (fun (i, P, ad3, c3) => ks.length - i) (fun u (i, P, ad3, c3) => (rn 3 (some (.slice ad3 P.length c3) :: none :: some (u 5) :: rn 16 (some (.int .i64 (i : Nat)) :: sc u 23 9 [])))) (fun (i, P, ad3, c3) => [some (osl ad3 P.length c3 32 1 (rws P))]) (fun (i, P, ad3, c3) => [(true, vRws P)]) (0, [], none, 0) kr ?_ kr ?_ ?_
  · exact ⟨Nat.zero_le _, PI.zero ks, rfl⟩
  · exact (subset_cons am subset_nil)
  intro u i hC; obtain ⟨i, P, ad3, c3⟩ := i; obtain ⟨hi, hP, hPl⟩ := hC; refine JC_nm 59 [osl _ _ _ _ _ _] [_, _, _, _, _, _] ?_; refine JC_sr ?_; refine JL_lss rfl rfl ?_; refine JL_split (fun h23 => ?_) (fun h23 => ?_)
  ·refine JL_dv 59 ?_; refine JC_seq ?_; refine JC_true rfl ?_; refine JC_skip ?_; refine JE_then ?_; refine JC_seq ?_; refine JC_block ?_; refine JC_sr ?_; refine JL_idx i sl57 rfl rfl rfl om rdg (by rw [ptrs_length]; omega) ?_; refine JL_loadE ty58 rfl rdg (ptrs_get om) ?_; refine JL_a ?_; refine JL_dv 59 ?_; refine JC_region ?_; refine JL_m ?_; refine JL_m ?_; refine JL_callF' (Asks.cons (by first | exact holds_of_mem am | (exact holds_of_own 0 rfl)) Asks.nil) (conF1 (IH (ks.getD i default) (at_mem (i := i) om)) (at_mem (i := i) om)) rfl ca45 ⟨rfl, rfl⟩ ?_; rintro _ _ ⟨ad28, c28, rfl, hc28, rfl⟩; refine JL_build1 sl22 rfl rfl (fun g29 => ?_); refine JL_norm _ [osl _ _ _ _ _ _, osl _ _ _ _ _ (rws [⟨ad28, c28, zs (fstT (er (ks.getD i default)))⟩])] [_, _, _, _, _, _, _] rfl rfl rfl ?_
   refine JL_append (news := rws [⟨ad28, c28, zs (fstT (er (ks.getD i default)))⟩]) 0 sl22 rfl (by decide) rfl rfl rfl (by rw [rws_length]; rfl) (Reads.own 1 rfl) (rws_one _) om om (fun ad30 cap30 hc30 => ?_); refine JL_dropAt 1 ?_; refine JL_norm _ [osl _ _ _ _ _ _] [_, _, _, _, _, _, _] rfl rfl rfl ?_; rw [rws_app, show P.length + 1 = (P ++ [(⟨ad28, c28, zs (fstT (er (ks.getD i default)))⟩ : Rw)]).length from (by rw [List.length_append]; rfl)]; refine JL_rwSnoc (f := true) (l := P) (ad := ad28) (cp := c28) (L := zs (fstT (er (ks.getD i default)))) am am ?_; refine JL_a ?_; refine JL_nu 59 [osl _ _ _ _ _ _] [_, _, _, _, _, _, _, _] ?_; refine JE_block_normal ?_; refine JE_then ?_; refine JC_region ?_; refine JL_add_to rfl rfl i6o ?_; refine JL_m ?_; refine JL_nv 59 ?_; refine JE_nextS (i + 1, P ++ [⟨ad28, c28, zs (fstT (er (ks.getD i default)))⟩], ad30, cap30) kr ?_ ?_ kr ?_
   · exact ⟨by omega, hP.step om _ rfl, by rw [List.length_append, hPl]; rfl⟩
   · first | omega | (dsimp only; omega)
   · exact subset_app (subset_cons am subset_nil) (ssS (ssS (ssS ss0)))
  ·refine JL_dv 59 ?_; refine JC_seq ?_; refine JC_false rfl ?_; refine JC_exit ?_; refine JE_then_exit ?_; refine JE_nextS_exit ?_; refine JE_block_exit ?_; refine JE_then ?_; refine JC_seq ?_; refine JC_cutT ((List Rw)) (fun (D : List Rw) => D.Perm P ∧ D.flatMap Rw.L = zs (fstT (er (.mk b n q ad cap ks)))) (fun u (D : List Rw) => (rn 32 (sc u 32 25 []))) (fun (D : List Rw) => [some (osl ad3 P.length c3 32 1 (rws D))]) (fun (D : List Rw) => [(true, vRws D)]) ?_ ?_
   ·refine JC_block ?_; refine JC_seq ?_; obtain rfl : i = ks.length := by omega
    rcases q with _ | _
    ·refine JC_region ?_; refine JL_m ?_; refine JL_nilCheckE rfl ?_; refine JL_fieldAddrE fo60_1 rfl rdg (show 0 < (ncells n false ad ks.length cap).length from Nat.zero_lt_succ _) ?_; refine JL_loadE ty4 rfl rdg rfl ?_; refine JL_not rfl ?_; rw [Bool.not_false]; refine JL_a ?_; refine JL_dv 59 ?_; refine JC_true rfl ?_; refine JC_region ?_; refine JL_m ?_; refine JL_callO (AsksO.cons am AsksO.nil) (sortR_con (fun e => by rw [e] at hPl; simp at hPl; omega) om (fun r hr => hP.ne hf.kids (nodup_kid hn) hr) (fun r hr => by
       obtain ⟨k, hk, e⟩ := hP.mem hr; rw [e, hdI_zs]
       have := lt_kid hx k hk _ (hd_mem (hf.kids k hk).ok (fst_least (hf.kids k hk).ok (nodup_kid hn k hk)).1)
       omega)) rfl ca83 ⟨rfl, rfl, rfl⟩ ?_
     rintro _ _ _ ⟨rfl, rfl, d39, hp39, hs39, rfl⟩; refine JL_rwSub (f := true) (l := P) (m := d39) am (fun x hx => hp39.mem_iff.1 hx) ?_; refine JL_nu 59 [osl _ _ _ _ _ _] [_, _, _, _, _, _, _] ?_; refine JE_block_normal ?_; refine JE_midS (d39) kr ?_ kr ?_
     · exact ⟨hp39, hP.any hks hf.kids hn hp39 hs39⟩
     · exact subset_app (subset_cons am subset_nil) (ssS ss0)
    ·refine JC_region ?_; refine JL_m ?_; refine JL_nilCheckE rfl ?_; refine JL_fieldAddrE fo60_1 rfl rdg (show 0 < (ncells n true ad ks.length cap).length from Nat.zero_lt_succ _) ?_; refine JL_loadE ty4 rfl rdg rfl ?_; refine JL_not rfl ?_; rw [Bool.not_true]; refine JL_a ?_; refine JL_dv 59 ?_; refine JC_false rfl ?_; refine JC_seq ?_
     have hrl := hP.ne hf.kids (nodup_kid hn) (rw_mem (l := P) (i := ks.length - 1) om)
     have hr0 := hP.ne hf.kids (nodup_kid hn) (rw_mem (l := P) (i := 0) om)
     have hrl2 := List.length_pos_iff.2 hrl
     have hr02 := List.length_pos_iff.2 hr0
     refine JC_rwGet (f := true) (P.getD (ks.length - 1) dR) am (rw_mem om) ?_; refine JC_rwGet (f := true) (P.getD 0 dR) am (rw_mem om) ?_; refine JC_drawT mixed 13 [spV 41 [] _, spV 42 [] _, spV 43 [1] _, spV 44 [2] _, spV 45 [0, 3] _, spV 46 [4] _, spV 47 [5] _, spV 48 [6] _, spV 49 [] _, spV 50 [8] _, spV 51 [9] _, spV 52 [10] _, spV 53 [11] _] ⟨oM, oM, OblS_V (fun vals ex ψ => (by refine JL_normQ _ (_ :: _ :: _ :: _ :: _ :: _ :: _ :: _ :: ψ) rfl rfl ?_; refine JL_len sl22 rfl ?_; exact vz rfl)), OblS_V (fun vals ex ψ => (by refine JL_sub_to rfl rfl i6o ?_; exact vz rfl)), OblS_V (fun vals ex ψ => (by refine JL_normQ _ (_ :: _ :: _ :: _ :: _ :: _ :: _ :: _ :: ψ) rfl rfl ?_; refine JL_idx (ks.length - 1) sl22 rfl rfl om om (Reads.own 0 rfl) (by rw [rws_length]; omega) ?_; exact vz rfl)), OblS_V (fun vals ex ψ => (by refine JL_normQ _ (_ :: _ :: _ :: _ :: _ :: _ :: _ :: _ :: ψ) rfl rfl ?_; refine JL_loadE ty32 rfl (Reads.own 0 rfl) (rws_get om) ?_; exact vz rfl)), OblS_V (fun vals ex ψ => (by refine JL_normQ _ (_ :: _ :: _ :: _ :: _ :: _ :: _ :: _ :: ψ) rfl rfl ?_; refine JL_idx 0 sl32 rfl rfl rfl om rdg lno ?_; exact vz rfl)), OblS_V (fun vals ex ψ => (by refine JL_normQ _ (_ :: _ :: _ :: _ :: _ :: _ :: _ :: _ :: ψ) rfl rfl ?_; refine JL_loadE ty3 rfl rdg (i64s_get om) ?_; exact vz rfl)), oM, OblS_V (fun vals ex ψ => (by
       refine JL_normQ _ (_ :: _ :: _ :: _ :: _ :: _ :: _ :: _ :: ψ) rfl rfl ?_; refine JL_idx 0 sl22 rfl rfl rfl om (Reads.own 0 rfl) (by rw [rws_length]; omega) ?_; exact vz rfl)), OblS_V (fun vals ex ψ => (by refine JL_normQ _ (_ :: _ :: _ :: _ :: _ :: _ :: _ :: _ :: ψ) rfl rfl ?_; refine JL_loadE ty32 rfl (Reads.own 0 rfl) (rws_get om) ?_; exact vz rfl)), OblS_V (fun vals ex ψ => (by refine JL_normQ _ (_ :: _ :: _ :: _ :: _ :: _ :: _ :: _ :: ψ) rfl rfl ?_; refine JL_idx 0 sl32 rfl rfl rfl om rdg lno ?_; exact vz rfl)), OblS_V (fun vals ex ψ => (by refine JL_normQ _ (_ :: _ :: _ :: _ :: _ :: _ :: _ :: _ :: ψ) rfl rfl ?_; refine JL_loadE ty3 rfl rdg (i64s_get om) ?_; exact vz rfl)), trivial⟩ kr (fun vals bs => ?_)
     refine JL_normL [_, _] ⟨59, [(41, _), (42, _), (43, _), (44, _), (45, _), (46, _), (47, _), (48, _), (49, _), (50, _), (51, _), (52, _), (53, _)], _⟩ [osl _ _ _ _ _ _] [_, _, _, _, _, _, _, _] rfl rfl rfl rfl ?_; refine JL_lss rfl rfl ?_; refine JL_split (fun h54 => ?_) (fun h54 => ?_)
     ·refine JL_a ?_; refine JL_du 59 [osl _ _ _ _ _ _] [_, _, _, _, _, _, _, _] ?_; refine JC_true rfl ?_; refine JC_region ?_; refine JL_m ?_; refine JL_callOL (σ1 := []) (rrv_con om) rfl ca85 ⟨rfl, rfl⟩ ?_; rintro _ _ _ ⟨rfl, rfl, rfl⟩; refine JL_norm _ [osl _ _ _ _ _ _] [_, _, _, _, _, _, _, _] rfl rfl rfl ?_; refine JL_rwSub (f := true) (l := P) (m := P.reverse) am (fun x hx => List.mem_reverse.1 hx) ?_; refine JL_nu 59 [osl _ _ _ _ _ _] [_, _, _, _, _, _, _, _, _] ?_; refine JE_block_normal ?_; refine JE_midS (P.reverse) kr ?_ kr ?_
      · exact ⟨List.reverse_perm _, hP.line hks (if_pos (by rw [← hdI_getD, ← hdI_getD]; exact h54)).symm⟩
      · exact subset_app (subset_cons am subset_nil) (ssS (ssS (ssS ss0)))
     ·refine JL_a ?_; refine JL_du 59 [osl _ _ _ _ _ _] [_, _, _, _, _, _, _, _] ?_; refine JC_false rfl ?_; refine JC_skip ?_; refine JE_block_normal ?_; refine JE_midS (P) kr ?_ kr ?_
      · exact ⟨.refl _, hP.line hks (if_neg (by rw [← hdI_getD, ← hdI_getD]; exact h54)).symm⟩
      · exact subset_app (subset_cons am subset_nil) (ssS (ssS ss0))
   intro u D hC; obtain ⟨hDp, hDf⟩ := hC; refine JC_nm 59 [osl _ _ _ _ _ _] [_, _, _, _, _, _, _] ?_; refine JC_seq ?_; obtain rfl : i = ks.length := by omega
   have hDl := hDp.length_eq
   have hDs : sm D ≤ 1000 := by have h := flat_len hP hf.kids (nodup_kid hn) hDp; rw [← nA_nd (b := b) (n := n) (q := q) (ad := ad) (cap := cap) hks] at h; unfold sm; omega
   rw [← hDl]; refine JC_region ?_; refine JL_m ?_; refine JL_give 0 rfl ?_; refine JL_norm _ [] [_, _, _, _, _, _, _, _] rfl rfl rfl ?_; refine JL_callA' true (AsksA.cons (holdsA_of_mem am) (AsksA.cons (holdsA_of_mem am) AsksA.nil)) (concatI_con (ps := D) om hDs) rfl ca86 ⟨rfl, rfl⟩ ?_; rintro _ _ ⟨ad58, c58, rfl, hc58, rfl⟩; refine JL_a ?_; refine JL_du 59 [] [_, _, _, _, _, _, _, _, _] ?_; refine JC_ret ?_; refine JE_ret (vs := [_]) [vCells ad58 (i64s (D.flatMap Rw.L))] Tryz.results45 ⟨rfl, rfl⟩ ?_ ?_
   · rw [← hDf]; exact ⟨ad58, c58, rfl, hc58, rfl⟩
   · exact (all_cons am all_nil)

theorem first_con (t : AT) : Fit t → (lvs (er t)).Nodup → (∀ x ∈ lvs (er t), x < 100) → (lvs (er t)).length ≤ 1000 → ConF Tryz.prog 45 [ptr t] [vA t] (fun v φo => ∃ (ad3 : Option Addr) (c3 : Nat), v = .slice ad3 (zs (fstT (er t))).length c3 ∧ ((zs (fstT (er t))).length ≤ c3 ∧ c3 ≤ 9223372036854775807) ∧ φo = [vCells ad3 (i64s (zs (fstT (er t))))]) := by
  induction t using AT.ind with
  | h b n q ad cap ks ih => exact fun hf hn hx hL => first_con0 hf hn hx hL fun k hk => ih k hk (hf.kids k hk) (nodup_kid hn k hk) (lt_kid hx k hk) (by
      have h1 : ks ≠ [] := fun e => by rw [e] at hk; cases hk
      rw [nA_nd h1] at hL
      have := nA_mem hk
      omega)

end Go.Fw.K
