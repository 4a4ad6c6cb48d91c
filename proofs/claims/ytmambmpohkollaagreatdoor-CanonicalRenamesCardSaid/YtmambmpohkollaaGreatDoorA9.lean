/- Walks through functions of the given program: each meets its contract. (Printed by a program of this repo.) -/
import Derived.Test.YtmambmpohkollaaGreatDoorA8
import Derived.Test.YtmambmpohkollaaGreatDoorCnKM
import Derived.Test.YtmambmpohkollaaGreatDoorB1
import Derived.Test.YtmambmpohkollaaGreatDoorB2
import Derived.Test.YtmambmpohkollaaGreatDoorProg
namespace Go.Fw.A9
open Go Go.RowKit Go.Proofs Go.Nat9 Go.Fw
attribute [local irreducible] JC JL JE
theorem ca28 : callable Tryz.prog 28 = true := by kernel_rfl
theorem ca29 : callable Tryz.prog 29 = true := by kernel_rfl
theorem ca32 : callable Tryz.prog 32 = true := by kernel_rfl
theorem ca33 : callable Tryz.prog 33 = true := by kernel_rfl
theorem ca34 : callable Tryz.prog 34 = true := by kernel_rfl
theorem ca52 : callable Tryz.prog 52 = true := by kernel_rfl
theorem fo25_0 : fOf Tryz.prog 25 0 = some 0 := by kernel_rfl
theorem fo25_1 : fOf Tryz.prog 25 1 = some 1 := by kernel_rfl
theorem mixed : Tryz.prog.follows .mixedOrders = true := by kernel_rfl
theorem sl22 : slOf Tryz.prog 22 = some (3, 1, 8, [.int .i64 0]) := by kernel_rfl
theorem sl41 : slOf Tryz.prog 41 = some (22, 1, 24, [.slice none 0 0]) := by kernel_rfl
theorem ty22 : tyOf Tryz.prog 22 = some (false, 1) := by kernel_rfl
theorem ty25 : tyOf Tryz.prog 25 = some (true, 3) := by kernel_rfl
theorem ty3 : tyOf Tryz.prog 3 = some (false, 1) := by kernel_rfl
theorem ty41 : tyOf Tryz.prog 41 = some (false, 1) := by kernel_rfl
theorem z22 : zeroOf Tryz.prog 22 = some [.slice none 0 0] := by kernel_rfl
theorem z3 : zeroOf Tryz.prog 3 = some [.int .i64 0] := by kernel_rfl
theorem z41 : zeroOf Tryz.prog 41 = some [.slice none 0 0] := by kernel_rfl
end Go.Fw.A9
namespace Go.Fw.K
open Go Go.RowKit Go.Proofs Go.Nat9 Go.Fw Go.Fw.A9
attribute [local irreducible] JC JL JE

open Go.Fw.Cn
set_option maxHeartbeats 1000000 in
theorem chk_con {a1 a2 a3 : Option Addr} {c1 c2 c3 : Nat} {O R : List Int} {K : List Cn.Lk} (hO : O.length ≤ 1000) (hR : R.length ≤ 1000) (hK : K.length ≤ 1000) :
    ConF Tryz.prog 28 [.agg #[.slice a1 O.length c1, .slice a2 R.length c2, .slice a3 K.length c3]] [vCells a1 (i64s O), vCells a2 (i64s R), vCells a3 (lks K)]
      (fun v φo => ∃ (ad : Option Addr) (c : Nat) (D : List Rw), v = .tuple #[.slice ad D.length c, .int .i64 (errG O R K)] ∧ φo = [vCells ad (rws D), vRws D] ∧ (errG O R K = 0 → Rls D = matG O R K)) := by
 refine ConF_of Tryz.func28 rfl 25 (_ :: rp 24) rfl rfl ?_; intro w0; refine JC_st [] [_, _, _] ?_; refine JC_sr ?_; refine JL_box rfl rfl (fun b1 => ?_); refine JL_a ?_; refine JL_a ?_; refine JL_du 25 [box _ _ [_, _, _]] [_, _, _] ?_; refine JC_sr ?_; refine JL_loadA (vs := [_, _, _]) 0 ty25 rfl rfl ⟨rfl, rfl, rfl, trivial⟩ ?_; refine JL_callF' (Asks.cons (holds_of_mem am) (Asks.cons (holds_of_mem am) (Asks.cons (holds_of_mem am) Asks.nil))) (mat13_con om om om) rfl ca52 ⟨rfl, rfl⟩ ?_; rintro _ _ ⟨ad8, c8, D8, e8, rfl, rfl, hm8⟩; refine JL_m ?_; refine JL_extract (v := .slice ad8 D8.length c8) rfl rfl ?_; refine JL_extract (v := .int .i64 e8) rfl rfl ?_; refine JL_a ?_; refine JL_a ?_; refine JL_du 25 [box _ _ [_, _, _]] [_, _, _, _, _] ?_; refine JC_seq ?_; refine JC_sr ?_; refine JL_m ?_; refine JL_neq rfl rfl ?_; refine JL_split (fun h12 => ?_) (fun h12 => ?_)
 ·refine JL_dv 25 ?_; refine JC_true rfl ?_; refine JC_sr ?_; refine JL_m ?_; refine JL_a ?_; refine JL_a ?_; refine JL_dv 25 ?_; refine JC_ret ?_; refine JE_then_ret ?_; refine JE_rwNil ?_; refine JE_addView (f := true) (p := vCells none (rws [])) (fun _ _ j u hj => by cases hj) ?_; refine JE_ret (vs := [_, _]) [vCells none (rws []), vRws []] Tryz.results28 ⟨rfl, rfl, rfl⟩ ?_ ?_
  · exact ⟨none, 0, [], by rcases hm8 with h | h; exact absurd h.2.1 om; rw [errG_1 h.1, h.2.1]; rfl, rfl, fun h0 => by rcases hm8 with h | h; exact absurd h.2.1 om; rw [errG_1 h.1] at h0; cases h0⟩
  · exact (all_cons am (all_cons am all_nil))
 ·refine JL_dv 25 ?_; refine JC_false rfl ?_; refine JC_skip ?_; refine JE_then ?_; refine JC_seq ?_; refine JC_seq ?_
  have hv : valG O R K := by rcases hm8 with h | h; exact h.1; exact absurd h.2.1 om
  have hDm : Rls D8 = matG O R K := by rcases hm8 with h | h; exact h.2.2; exact absurd h.2.1 om
  refine JC_region ?_; refine JL_fieldAddr fo25_0 rfl ?_; refine JL_load 0 ty22 rfl rfl rfl ?_; refine JL_len sl22 rfl ?_; refine JL_gtr rfl rfl ?_; refine JL_split (fun h17 => ?_) (fun h17 => ?_)
  ·refine JL_m ?_; refine JL_gn ?_; refine JL_gn ?_; refine JL_gn ?_; refine JL_gn ?_; refine JL_pick_t rfl rfl ?_; refine JL_dv 25 ?_; refine JC_true rfl ?_; refine JC_sr ?_; refine JL_a ?_; refine JL_a ?_; refine JL_dv 25 ?_; refine JC_ret ?_; refine JE_then_ret ?_; refine JE_rwNil ?_; refine JE_addView (f := true) (p := vCells none (rws [])) (fun _ _ j u hj => by cases hj) ?_; refine JE_ret (vs := [_, _]) [vCells none (rws []), vRws []] Tryz.results28 ⟨rfl, rfl, rfl⟩ ?_ ?_
   · exact ⟨none, 0, [], by rw [errG_6 hv (.inl om)]; rfl, rfl, fun h0 => by rw [errG_6 hv (.inl om)] at h0; cases h0⟩
   · exact (all_cons am (all_cons am all_nil))
  ·refine JL_m ?_; refine JL_gy ?_; refine JL_fieldAddr fo25_1 rfl ?_; refine JL_gy ?_; refine JL_load 0 ty22 rfl rfl rfl ?_; refine JL_gy ?_; refine JL_len sl22 rfl ?_; refine JL_gy ?_; refine JL_gtr rfl rfl ?_; refine JL_split (fun h22 => ?_) (fun h22 => ?_)
   ·refine JL_pick_f rfl rfl ?_; refine JL_dv 25 ?_; refine JC_true rfl ?_; refine JC_sr ?_; refine JL_a ?_; refine JL_a ?_; refine JL_dv 25 ?_; refine JC_ret ?_; refine JE_then_ret ?_; refine JE_rwNil ?_; refine JE_addView (f := true) (p := vCells none (rws [])) (fun _ _ j u hj => by cases hj) ?_; refine JE_ret (vs := [_, _]) [vCells none (rws []), vRws []] Tryz.results28 ⟨rfl, rfl, rfl⟩ ?_ ?_
    · exact ⟨none, 0, [], by rw [errG_6 hv (.inr om)]; rfl, rfl, fun h0 => by rw [errG_6 hv (.inr om)] at h0; cases h0⟩
    · exact (all_cons am (all_cons am all_nil))
   ·refine JL_pick_f rfl rfl ?_; refine JL_dv 25 ?_; refine JC_false rfl ?_; refine JC_skip ?_; refine JE_then ?_; refine JC_sr ?_; refine JL_m ?_; refine JL_a ?_; refine JL_a ?_; refine JL_dv 25 ?_; refine JC_ret ?_; refine JE_ret (vs := [_, _]) [vCells ad8 (rws D8), vRws D8] Tryz.results28 ⟨rfl, rfl, rfl⟩ ?_ ?_
    · exact ⟨ad8, c8, D8, by rw [errG_ok hv om]; rfl, rfl, fun _ => hDm⟩
    · exact (all_cons am (all_cons am all_nil))

set_option maxHeartbeats 1000000 in
theorem code_con {adm : Option Addr} {cm w : Nat} {Mr : List Rw} (hn : Mr.length ≤ 6) (hw : w ≤ 6) (hnw : Mr.length = 0 → w = 0) (hMr : ∀ r ∈ Mr, r.L.length = w) :
    ConF Tryz.prog 29 [.slice adm Mr.length cm, .int .i64 (w : Nat)] [vCells adm (rws Mr), vRws Mr]
      (fun v φo => ∃ (ad : Option Addr) (c : Nat) (B : List Int), v = .slice ad B.length c ∧ φo = [vCells ad (i64s B)] ∧ IsCode (Rls Mr) w B ∧ B.length ≤ c ∧ c ≤ 9223372036854775807) := by
 have hMl : (Rls Mr).length = Mr.length := List.length_map _
 refine ConF_of Tryz.func29 rfl 11 (_ :: _ :: rp 9) rfl rfl ?_; intro w0; refine JC_st [] [_, _] ?_; refine JC_sr ?_; refine JL_box rfl rfl (fun b2 => ?_); refine JL_box rfl rfl (fun b3 => ?_); refine JL_a ?_; refine JL_du 11 [box _ _ [_], box _ _ [_]] [_, _] ?_; refine JC_sr ?_; refine JL_alloc z22 (fun b5 => ?_); refine JL_du 11 [box _ _ [_], box _ _ [_], box _ _ [_]] [_, _] ?_; refine JC_sr ?_; refine JL_load 0 ty41 rfl rfl rfl ?_; refine JL_len sl41 rfl ?_; refine JL_makeFunc (vs := [_, _, _]) ⟨rfl, rfl, rfl, rfl⟩ ?_; refine JL_addNil 3 1 ?_; refine JL_giveBox 0 rfl ?_; refine JL_norm _ [box _ _ [_], box _ _ [_], osl _ _ _ _ _ _] [_, _, _] rfl rfl rfl ?_; refine JL_giveBox 0 rfl ?_; refine JL_norm _ [box _ _ [_], osl _ _ _ _ _ _] [_, _, _, _] rfl rfl rfl ?_
 refine JL_callQ (AsksQ.cons (AsksQ.list (AsksQ.cons (holdsA_of_fresh am) (AsksQ.cons (holdsA_of_mem am) (AsksQ.cons (holdsA_of_mem am) (AsksQ.cons (holdsA_of_fresh am) AsksQ.nil))))) AsksQ.nil) (orCd_con (X := Rls Mr) (w := w) (n := Mr.length) (bb := b5) (cbf := 53) (caps := [.pointer (some ⟨b2, 0, none⟩), .pointer (some ⟨b3, 0, none⟩), .pointer (some ⟨b5, 0, none⟩)]) (vc := vList [vCells (some ⟨b2, 0, none⟩) [.slice adm Mr.length cm], vCells adm (rws Mr), vRws Mr, vCells (some ⟨b3, 0, none⟩) [.int .i64 (w : Nat)]]) hn kr (fun p ad c B ab cb hp hB => ConQ.ofList (ps := [vCells ad (i64s (zs p))]) (cdcb_con (bm := some ⟨b2, 0, none⟩) (bw := some ⟨b3, 0, none⟩) hn hw hnw hMr hp hB)) [] none 0 ⟨fun _ => rfl, Nat.zero_le _⟩) rfl ca34 ⟨rfl, rfl, rfl⟩ ?_; rintro _ _ _ ⟨B9, ab9, cb9, b9, rfl, rfl, rfl, hs9, hi9⟩; refine JL_du 11 [box _ _ [_], osl _ _ _ _ _ _] [_, _, _, _] ?_; refine JC_sr ?_; refine JL_load 0 ty22 rfl rfl rfl ?_; refine JL_a ?_; refine JL_dv 11 ?_; refine JC_ret ?_; refine JE_ownCap 1 rfl (fun hcap => ?_); refine JE_give 1 rfl ?_; refine JE_norm _ [box _ _ [_]] [_, _, _, _, _] rfl rfl rfl ?_
 refine JE_ret (vs := [_]) [vCells ab9 (i64s B9)] Tryz.results29 ⟨rfl, rfl⟩ ?_ ?_
 · exact ⟨ab9, cb9, B9, rfl, rfl, by obtain ⟨B', h1, h2⟩ := cdS_all (Rls Mr) w; rw [hMl, hs9] at h1; cases h1; exact h2, hcap⟩
 · exact (all_cons am all_nil)

set_option maxHeartbeats 1000000 in
theorem Code_con {a1 a2 a3 : Option Addr} {c1 c2 c3 : Nat} {O R : List Int} {K : List Cn.Lk} (hO : O.length ≤ 1000) (hR : R.length ≤ 1000) (hK : K.length ≤ 1000) :
    ConF Tryz.prog 10 [.agg #[.slice a1 O.length c1, .slice a2 R.length c2, .slice a3 K.length c3]] [vCells a1 (i64s O), vCells a2 (i64s R), vCells a3 (lks K)]
      (fun v φo => ∃ (ad : Option Addr) (c : Nat) (B : List Int), v = .tuple #[.slice ad B.length c, .int .i64 (errG O R K)] ∧ φo = [vCells ad (i64s B)] ∧ (errG O R K = 0 → IsCode (matG O R K) R.length B) ∧ (errG O R K ≠ 0 → B = []) ∧ B.length ≤ c ∧ c ≤ 9223372036854775807) := by
 refine ConF_of Tryz.func10 rfl 19 (_ :: rp 18) rfl rfl ?_; intro w0; refine JC_st [] [_, _, _] ?_; refine JC_sr ?_; refine JL_box rfl rfl (fun b1 => ?_); refine JL_a ?_; refine JL_a ?_; refine JL_du 19 [box _ _ [_, _, _]] [_, _, _] ?_; refine JC_sr ?_; refine JL_loadA (vs := [_, _, _]) 0 ty25 rfl rfl ⟨rfl, rfl, rfl, trivial⟩ ?_; refine JL_callF' (Asks.cons (holds_of_mem am) (Asks.cons (holds_of_mem am) (Asks.cons (holds_of_mem am) Asks.nil))) (chk_con hO hR hK) rfl ca28 ⟨rfl, rfl⟩ ?_; rintro _ _ ⟨ad8, c8, D8, rfl, rfl, hm8⟩; refine JL_m ?_; refine JL_extract (v := .slice ad8 D8.length c8) rfl rfl ?_; refine JL_extract (v := .int .i64 (errG O R K)) rfl rfl ?_; refine JL_a ?_; refine JL_a ?_; refine JL_du 19 [box _ _ [_, _, _]] [_, _, _, _, _] ?_; refine JC_seq ?_; refine JC_sr ?_; refine JL_m ?_; refine JL_neq rfl rfl ?_; refine JL_split (fun h12 => ?_) (fun h12 => ?_)
 ·refine JL_dv 19 ?_; refine JC_true rfl ?_; refine JC_sr ?_; refine JL_m ?_; refine JL_a ?_; refine JL_a ?_; refine JL_dv 19 ?_; refine JC_ret ?_; refine JE_then_ret ?_; refine JE_addView (f := true) (p := vCells none (i64s [])) (fun _ _ j u hj => by simp [i64s] at hj) ?_; refine JE_ret (vs := [_, _]) [vCells none (i64s [])] Tryz.results10 ⟨rfl, rfl, rfl⟩ ?_ ?_
  · exact ⟨none, 0, [], rfl, rfl, fun h => absurd h h12, fun _ => rfl, Nat.le_refl _, Nat.zero_le _⟩
  · exact (all_cons am all_nil)
 ·refine JL_dv 19 ?_; refine JC_false rfl ?_; refine JC_skip ?_; refine JE_then ?_; refine JC_seq ?_
  have he0 : errG O R K = 0 := Classical.not_not.1 h12
  obtain ⟨hv, hO6, hR6⟩ := errG_0.1 he0; obtain ⟨hDl, hDr⟩ := matG_rows (hm8 he0); refine JC_region ?_; refine JL_m ?_; refine JL_fieldAddr fo25_1 rfl ?_; refine JL_load 0 ty22 rfl rfl rfl ?_; refine JL_len sl22 rfl ?_; refine JL_callF' (Asks.cons (holds_of_mem am) (Asks.cons (holds_of_mem am) Asks.nil)) (code_con (w := R.length) om hR6 (fun h => valG_nw hv om) hDr) rfl ca29 ⟨rfl, rfl, rfl⟩ ?_; rintro _ _ ⟨ad18, c18, B18, rfl, rfl, hB18, hc18⟩; refine JL_a ?_; refine JL_a ?_; refine JL_du 19 [box _ _ [_, _, _]] [_, _, _, _, _, _] ?_; refine JC_ret ?_; refine JE_ret (vs := [_, _]) [vCells ad18 (i64s B18)] Tryz.results10 ⟨rfl, rfl, rfl⟩ ?_ ?_
  · exact ⟨ad18, c18, B18, by rw [he0]; rfl, rfl, fun _ => by rw [← hm8 he0]; exact hB18, fun h => absurd he0 h, hc18⟩
  · exact (all_cons am all_nil)

set_option maxHeartbeats 2000000 in
theorem sym_con {a1 a2 a3 : Option Addr} {c1 c2 c3 : Nat} {O R : List Int} {K : List Cn.Lk} (hO : O.length ≤ 1000) (hR : R.length ≤ 1000) (hK : K.length ≤ 1000) :
    ConF Tryz.prog 12 [.agg #[.slice a1 O.length c1, .slice a2 R.length c2, .slice a3 K.length c3]] [vCells a1 (i64s O), vCells a2 (i64s R), vCells a3 (lks K)]
      (fun v φo => ∃ n : Nat, v = .tuple #[.int .i64 (n : Nat), .int .i64 (errG O R K)] ∧ φo = [] ∧ n = if errG O R K = 0 then nM (matG O R K) (matG O R K) R.length else 0) := by
 refine ConF_of Tryz.func12 rfl 29 (_ :: rp 28) rfl rfl ?_; intro w0; refine JC_st [] [_, _, _] ?_; refine JC_sr ?_; refine JL_box rfl rfl (fun b1 => ?_); refine JL_a ?_; refine JL_a ?_; refine JL_du 29 [box _ _ [_, _, _]] [_, _, _] ?_; refine JC_sr ?_; refine JL_loadA (vs := [_, _, _]) 0 ty25 rfl rfl ⟨rfl, rfl, rfl, trivial⟩ ?_; refine JL_callF' (Asks.cons (holds_of_mem am) (Asks.cons (holds_of_mem am) (Asks.cons (holds_of_mem am) Asks.nil))) (chk_con hO hR hK) rfl ca28 ⟨rfl, rfl⟩ ?_; rintro _ _ ⟨ad10, c10, D10, rfl, rfl, hm10⟩; refine JL_m ?_; refine JL_extract (v := .slice ad10 D10.length c10) rfl rfl ?_; refine JL_extract (v := .int .i64 (errG O R K)) rfl rfl ?_; refine JL_alloc z41 (fun b4 => ?_); refine JL_store (vs := [_]) 1 ty41 rfl rfl rfl ao1 rfl bleq ?_; refine JL_a ?_; refine JL_du 29 [box _ _ [_, _, _], box _ _ [_]] [_, _, _, _, _] ?_; refine JC_seq ?_; refine JC_sr ?_; refine JL_m ?_; refine JL_neq rfl rfl ?_; refine JL_split (fun h14 => ?_) (fun h14 => ?_)
 ·refine JL_dv 29 ?_; refine JC_true rfl ?_; refine JC_sr ?_; refine JL_m ?_; refine JL_a ?_; refine JL_a ?_; refine JL_dv 29 ?_; refine JC_ret ?_; refine JE_then_ret ?_; refine JE_ret (vs := [_, _]) [] Tryz.results12 ⟨rfl, rfl, rfl⟩ ?_ ?_
  · exact ⟨0, rfl, rfl, (if_neg h14).symm⟩
  · exact all_nil
 ·refine JL_dv 29 ?_; refine JC_false rfl ?_; refine JC_skip ?_; refine JE_then ?_; refine JC_seq ?_
  have he0 : errG O R K = 0 := Classical.not_not.1 h14
  obtain ⟨hv, hO6, hR6⟩ := errG_0.1 he0; obtain ⟨hDl, hDr⟩ := matG_rows (hm10 he0)
  have hMl : (Rls D10).length = D10.length := List.length_map _
  refine JC_drawT mixed 9 [spV 16 [] _, spV 17 [] _, spV 18 [1] _, spV 19 [2] _, spV 20 [] _, spV 21 [4] _, spC 22 [5] _, spC 23 [0, 3, 6] _, spA 6 41 [.slice none 0 0]] ⟨OblS_V (fun vals ex ψ => (by refine JL_normQ _ (_ :: _ :: _ :: _ :: _ :: ψ) rfl rfl ?_; refine JL_load 1 ty41 rfl rfl rfl ?_; exact vz rfl)), OblS_V (fun vals ex ψ => (by refine JL_normQ _ (_ :: _ :: _ :: _ :: _ :: ψ) rfl rfl ?_; refine JL_fieldAddr fo25_1 rfl ?_; exact vz rfl)), OblS_V (fun vals ex ψ => (by refine JL_normQ _ (_ :: _ :: _ :: _ :: _ :: ψ) rfl rfl ?_; refine JL_load 0 ty22 rfl rfl rfl ?_; exact vz rfl)), OblS_V (fun vals ex ψ => (by refine JL_normQ _ (_ :: _ :: _ :: _ :: _ :: ψ) rfl rfl ?_; refine JL_len sl22 rfl ?_; exact vz rfl)), OblS_V (fun vals ex ψ => (by refine JL_normQ _ (_ :: _ :: _ :: _ :: _ :: ψ) rfl rfl ?_; refine JL_load 1 ty41 rfl rfl rfl ?_; exact vz rfl)), OblS_V (fun vals ex ψ => (by refine JL_normQ _ (_ :: _ :: _ :: _ :: _ :: ψ) rfl rfl ?_; refine JL_len sl41 rfl ?_; exact vz rfl)), OblS_C (fun vals ex ψ => (by refine JL_normQ ⟨29, [(16, _), (17, _), (18, _), (19, _), (20, _), (21, _), (22, _), (23, _), (6, _)], _⟩ (_ :: _ :: _ :: _ :: _ :: ψ) rfl rfl ?_; refine JL_callF' Asks.nil (plain_con (n := D10.length) om) rfl ca33 ⟨rfl, rfl⟩ ?_; exact fun v φo hP => JL_nil (JE_stepC φo rfl hP (fun p hp => mapB_l hp) (fun p hp => mapB_r (ss0 p hp))))), OblS_C (fun vals ex ψ => (by
    refine JL_normQ ⟨29, [(16, _), (17, _), (18, _), (19, _), (20, _), (21, _), (22, _), (23, _), (6, _)], _⟩ (_ :: _ :: _ :: _ :: _ :: _ :: ψ) rfl rfl ?_; generalize vals 6 = x22; refine JL_usePost mm0 (fun φo hP => ?_); obtain ⟨ad22, c22, rfl, rfl⟩ := hP; refine JL_norm _ _ (_ :: _ :: _ :: _ :: _ :: _ :: _ :: ψ) rfl rfl rfl ?_; refine JL_callF' (Asks.cons (holds_of_mem am) (Asks.cons (holds_of_mem am) (Asks.cons (holds_of_mem am) Asks.nil))) (colF_con (Mr := D10) (w := R.length) (p := List.range D10.length) om hDr (by rw [List.length_range]; omega) (fun v hv => List.mem_range.1 hv)) rfl ca32 ⟨rfl, rfl, rfl, rfl⟩ ?_; exact fun v φo hP => JL_nil (JE_stepC φo rfl hP (fun p hp => mapB_l hp) (fun p hp => mapB_r ((ssS ss0) p hp))))), OblS_al rfl z41, trivial⟩ kr (fun vals bs => ?_)
  refine JL_normL [_] ⟨29, [(16, _), (17, _), (18, _), (19, _), (20, _), (21, _), (22, _), (23, _), (6, _)], _⟩ [box _ _ [_, _, _], box _ _ [_], box _ _ [_]] [_, _, _, _, _, _, _] rfl rfl rfl rfl ?_; generalize vals (0 + 1 + 1 + 1 + 1 + 1 + 1) = x22; generalize vals (0 + 1 + 1 + 1 + 1 + 1 + 1 + 1) = x23; generalize bs (0 + 1 + 1 + 1 + 1 + 1 + 1 + 1 + 1) = b6; refine JL_usePost (mmS mm0) (fun φo hP => ?_); obtain ⟨ad23, D23, rfl, hw23, hD23, rfl⟩ := hP; refine JL_norm _ [box _ _ [_, _, _], box _ _ [_], box _ _ [_]] [_, _, _, _, _, _, _, _, _] rfl rfl rfl ?_; refine JL_store (vs := [_]) 2 ty41 rfl rfl rfl ao1 rfl bleq ?_; refine JL_norm _ [box _ _ [_, _, _], box _ _ [_], box _ _ [.slice ad23 D23.length D23.length]] [_, _, _, _, _, _, _, _, _] rfl rfl rfl ?_; refine JL_du 29 [box _ _ [_, _, _], box _ _ [_], box _ _ [_]] [_, _, _, _, _, _, _, _, _] ?_; refine JC_sr ?_; refine JL_alloc z3 (fun b7 => ?_); refine JL_store (vs := [_]) 3 ty3 rfl rfl rfl ao1 rfl bleq ?_; refine JL_du 29 [box _ _ [_, _, _], box _ _ [_], box _ _ [_], box _ _ [_]] [_, _, _, _, _, _, _, _, _] ?_
  refine JC_sr ?_; refine JL_load 1 ty41 rfl rfl rfl ?_; refine JL_len sl41 rfl ?_; refine JL_makeFunc (vs := [_, _, _, _]) ⟨rfl, rfl, rfl, rfl, rfl⟩ ?_; refine JL_giveBox 2 rfl ?_; refine JL_norm _ [box _ _ [_, _, _], box _ _ [_], box _ _ [_]] [_, _, _, _, _, _, _, _, _, _] rfl rfl rfl ?_; refine JL_giveBox 1 rfl ?_; refine JL_norm _ [box _ _ [_, _, _], box _ _ [_]] [_, _, _, _, _, _, _, _, _, _, _] rfl rfl rfl ?_; refine JL_giveBox 0 rfl ?_; refine JL_norm _ [box _ _ [_]] [_, _, _, _, _, _, _, _, _, _, _, _] rfl rfl rfl ?_
  refine JL_callQ (AsksQ.cons (AsksQ.list (AsksQ.cons (holdsA_of_fresh am) (AsksQ.cons (holdsA_of_fresh am) (AsksQ.cons (holdsA_of_fresh am) (AsksQ.cons (holdsA_of_fresh am) (AsksQ.cons (holdsA_of_fresh am) (AsksQ.cons (holdsA_of_fresh am) (AsksQ.cons (holdsA_of_fresh am) AsksQ.nil)))))))) AsksQ.nil) (orSy_con (X := Rls D10) (w := R.length) (n := D10.length) (bn := b7) (cbf := 35) (caps := [.pointer (some ⟨b6, 0, none⟩), .pointer (some ⟨b4, 0, none⟩), .pointer (some ⟨b1, 0, none⟩), .pointer (some ⟨b7, 0, none⟩)]) (vc := vList [vCells (some ⟨b6, 0, none⟩) [.slice ad23 D23.length D23.length], vCells ad23 (rws D23), vRws D23, vCells (some ⟨b4, 0, none⟩) [.slice ad10 D10.length c10], vCells ad10 (rws D10), vRws D10, vCells (some ⟨b1, 0, none⟩) [.slice a1 O.length c1, .slice a2 R.length c2, .slice a3 K.length c3]]) om kr (fun p ad c m hp _ => ConQ.ofList (ps := [vCells ad (i64s (zs p))]) (sycb_con (bw := some ⟨b6, 0, none⟩) (bm := some ⟨b4, 0, none⟩) (bg := some ⟨b1, 0, none⟩) om hR6 hDr hD23 ⟨Nat.le_refl _, by omega⟩ hp)) 0 trivial) rfl ca34 ⟨rfl, rfl, rfl⟩ ?_; rintro _ _ _ ⟨m27, b27, rfl, rfl, rfl, hs27, hi27⟩
  have hm27 : m27 = nM (matG O R K) (matG O R K) R.length := by have h1 := syS_all (Rls D10) R.length; rw [hMl, hs27] at h1; rw [← hm10 he0]; exact congrArg Prod.fst h1
  rw [hm27, nM_wr (by rw [matG_len]; exact hO6) hR6]; refine JL_du 29 [box _ _ [_]] [_, _, _, _, _, _, _, _, _, _, _, _] ?_; refine JC_sr ?_; refine JL_load 0 ty3 rfl rfl rfl ?_; refine JL_a ?_; refine JL_a ?_; refine JL_dv 29 ?_; refine JC_ret ?_; refine JE_ret (vs := [_, _]) [] Tryz.results12 ⟨rfl, rfl, rfl⟩ ?_ ?_
  · exact ⟨_, by rw [he0]; rfl, rfl, (if_pos he0).symm⟩
  · exact all_nil

end Go.Fw.K
